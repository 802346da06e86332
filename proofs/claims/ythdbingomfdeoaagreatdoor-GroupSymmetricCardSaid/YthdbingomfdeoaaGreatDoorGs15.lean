/- Part Gs15. -/
import Derived.Test.YthdbingomfdeoaaGreatDoorGs14

set_option linter.all false
set_option maxRecDepth 100000
set_option maxHeartbeats 100000000
namespace Go.Proofs.YthdbingomfdeoaaGreatDoor
open Tryz Go Go.RowKit
def mF:=@List.modify_zero_cons
def mG:=@List.modify_succ_cons
variable {f:Act} {p:Addr} {ops:Array Oper} {Q:Exit->Act->World->Prop} {va vars vb:Int} {m:List (List Int×Value)} {rows:List (List Value)} {pre xs:List Int} {ps:List Nat} {rest:List Oper} {cs cs' mem s zs:List Value} {B N b b' base bytes c c' cB cg' cx fB g0 i j k n n' ng nx r rB:Nat} {o:Oper} {y:Operand} {a a' ag ag':Option Addr} {row:Option Nat} {P:Program} {e e' t t' ty:TypeId} {u v z:Value} {w w' w1 w2:World}
open Classical in
noncomputable def rlB (a:List Int) (x y:PLs):Bool:=decide (Rl a x y)
theorem N7{R C cC:Nat}{l o:PLs}{x:Option Addr}(hM:MbA w base B l cB)(ar:MbA w R C o cC)(hx:SlI w x nx cx xs)(hp:Af xs=true)(hl:xs.length=N)(hc:Pl.Canon N l)(ab:Pl.Canon N o)(hb:l.length<=4096)(aw:o.length<=4096) :
 Calls prog 72 #[.pointer (some ⟨B,0,none⟩),.slice x nx cx,.pointer (some ⟨C,0,none⟩)] w fun e w'=>e = .returned (.bool (rlB xs l o))/\Ext w w':=by
 classical
 obtain⟨r,ae,ce,am,cm,hA,V⟩:=hM;obtain⟨q,be,de,bm,dm,I,M⟩:=ar;have aa:N<=6:=by rw[<-hl];exact(Ap hp).1
 obtain⟨P,a3⟩:∃ k,l.length=k:=⟨_,rfl⟩;obtain⟨ml,a2⟩:∃ k,o.length=k:=⟨_,rfl⟩;have hK:=V.mpk.slk (by omega);have ak:=V.mpm;have aj:=M.mpm;rw[a3]at hA hK hb;rw[a2]at I aw;have b0:=hA.c 0 rfl;have b1:=hA.c 1 rfl;have c0:w.cell? ⟨C,0,none⟩=some (.map (some q)):=I.cell (i:=0) (by simp[mbL]);have c1:w.cell? ⟨C,1,none⟩=some (.slice be ml de):=I.cell (i:=1) (by simp[mbL]);have ai:=hx.len;obtain⟨L,p⟩:∃ s,rlB xs l o=s:=⟨_,rfl⟩;have g:Hid (decide (Rl xs l o)=L):=qh p;rw[p];have G:=qh a3;have a6:=qh a2;have Q:=qh hc;have E:=qh ab;have HP:=qh hp
 have F:=qh hl;have ao:=qh ai;have a7:=qh aa;clear V M a3 a2 hc ab hp hl ai p hA I aa
 go_enter func72,ntmps72
 by_cases j:P=ml
 case neg =>
  have HF:Hid (L=false):=qh (by
   rw[<-g.out]
   exact fK fun h=>j (by rw[<-G.out,<-a6.out];exact((MC HP.out F.out Q.out E.out).2 h).1))
  have ay:((P:Int) != (ml:Int))=true:=by simp;omega
  have aC:decide ((P:Int)=(ml:Int))=false:=fK (by omega);clear j
  go_upto_region 1 with(fail)
  go_quiet (fail)
  go_wp2;go_ret;exact⟨by rw[HF.out];rfl,(Ext.refl w).drewN _⟩
 have az:=qh j;subst j;have ay:((P:Int) != (P:Int))=false:=by simp
 go_upto_region 1 with(fail)
 go_quiet (fail)
 go_wp2
 go_loopw[25] (fun iv wr=>∃ k:Nat,iv = .int .i64 k/\k<=P/\Ext w wr/\Hid (∀ i,i<k->Pl.coef o (mvd xs (l.getD i ([],0)).1)=(l.getD i ([],0)).2)) (fun iv _=>P-(intOf iv).toNat)
 case atStart=>exact⟨0,rfl,fu _,(Ext.refl w).drewN _,qh (fun i hi=>absurd hi (by omega))⟩
 case round =>
  obtain⟨k,rfl,hk,hE,HI⟩:=hrel;by_cases ag:k<P
  case neg =>
   have HT:Hid (L=true):=qh (by
    rw[<-g.out];refine gn ((MC HP.out F.out Q.out E.out).1 ⟨by rw[G.out,a6.out],fun t ht => ?_⟩);obtain⟨i,hi,rfl⟩:=gK ht;have h1:=HI.out i (by have:=G.out;omega)
    simpa[hi]using h1)
   clear HI;go_wp2;go_ret;exact⟨by rw[HT.out];rfl,hE⟩
  have a1:k<l.length:=by rw[G.out];exact ag
  have H:Hid (l.getD k ([],0)∈l):=qh (by
   rw[gqq,eZ a1]
   exact fE _)
  have U:=hK.ext hE;obtain⟨aA,oe,rfl,ax⟩:=U.rd (by omega);have y:(l.map F4).getD k []=F4 (l.getD k ([],0)):=by simp[a1]
  have a5:=Q.out.len _ H.out;have ah:(mvd xs (l.getD k ([],0)).1).length=N:=by rw[AV];exact a5
  obtain⟨S1,W⟩:∃ s,ofL (lkS o (mvd xs (l.getD k ([],0)).1))=s:=⟨_,rfl⟩;obtain⟨S2,Y⟩:∃ s,ofL (lkS l (l.getD k ([],0)).1)=s:=⟨_,rfl⟩;have Z:=Qv E.out ah;have a0:=Qv Q.out a5;rw[W]at Z;rw[Y]at a0;obtain⟨bb,a⟩:∃ b,(S1.toList == S2.toList) = !b:=⟨!(S1.toList == S2.toList),by simp⟩;have HB:=qh a
  have D:Hid ((bb=true->Pl.coef o (mvd xs (l.getD k ([],0)).1)≠(l.getD k ([],0)).2)/\(bb=false->Pl.coef o (mvd xs (l.getD k ([],0)).1)=(l.getD k ([],0)).2)):=qh (by
   have a4:=Q.out.nz _ H.out;have h1:=WD (lkS o (mvd xs (l.getD k ([],0)).1)) (lkS l (l.getD k ([],0)).1);rw[W,Y,a]at h1;have h2:lkS l (l.getD k ([],0)).1=txt (l.getD k ([],0)).2:=(Pn a4).2 (Cu Q.out H.out);rw[h2]at h1;constructor
   · intro hb e;rw[hb]at h1;exact of_decide_eq_false h1.symm ((Pn a4).2 e)
   · intro hb;rw[hb]at h1
     exact(Pn a4).1 (gX h1.symm))
  obtain⟨n,z⟩:∃ n,Ab (l.getD k ([],0)).1=n:=⟨_,rfl⟩;obtain⟨μ,K⟩:∃ μ,Ab (mvd xs (l.getD k ([],0)).1)=μ:=⟨_,rfl⟩;have A:n.length=6:=by rw[<-z];exact AA (by have:=a7.out;omega)
  have an:μ.length=6:=by rw[<-K];exact AA (by have:=a7.out;omega)
  have J:=qh (fun(wy:World) (hy:Ext wr wy)=>EM (m:=(l.getD k ([],0)).1) ((hx.ext hE).ext hy) HP.out (by have h1:=ao.out;have h2:=F.out;omega));have ad:F4 (l.getD k ([],0))=n.map (Value.int .i64):=by rw[<-z];rfl
  rw[z]at a0;rw[K]at Z;rw[z,K]at J;rw[ad]at y;have hY:=Arr.new wr 57 An;have S:Agg prog 57 (n.map (Value.int .i64)).length:=by rw[fq,A];exact Cg
  have ap:Hid (An.length=(n.map (Value.int .i64)).length):=qh (by rw[fq,A];rfl);have O:∀ v∈n.map (Value.int .i64),v.oneCell'=true:=A4 _;clear ax W Y a ad z K a5 ah a1
  go_upto_region 6 with(first
   | (refine Dz rfl rfl Cg rfl U ag ?_;rw[y])
   | (refine Aa (vs:=n.map (Value.int .i64)) rfl rfl rfl rfl rfl S hY ap.out O ?_;intro w5 T ac))
  have a8:Ext wr w5:=((Ext.refl wr).alloc _).grownR ac (lrf _);obtain⟨X,hX⟩:∃ x,wr.heap.size=x:=⟨_,rfl⟩;rw[hX]at T |-;have f:=hE.trans a8;replace b0:=f.cell b0;replace c0:=f.cell c0;have av:=ak.ext f;have au:=aj.ext f;have af:Bg n = .agg (n.map (Value.int .i64)).toArray:=rfl;replace J:=qh (fun(wy:World) (hy:Ext w5 wy)=>J.out wy (a8.trans hy));clear hY ac y U hX O b1 c1
  refine Ad
   [hdP C 0,hdP C 0,hdP C 0,he (.map (some q)),hdS x nx cx,he (Bg n),hp (fun v wx=>v=Bg μ),he (.string S1),hdP B 0,hdP B 0,hdP B 0,he (.map (some r)),he (Bg n),he (.string S2),hdB bb]
   ⟨fun _ _ _ _ h=>h,trivial⟩ ⟨?o0,?o1,?o2,?o3,?o4,?o5,?o6,?o7,?o8,?o9,?o10,?o11,?o12,?o13,?o14,trivial⟩ ?fin
  case o0 | o4 | o8=>exact omv
  case o1 | o9=>exact onc
  case o2 | o10=>exact ofa (d:=0)
  case o3 | o11=>exact ol
  case o5 =>
   exact olA rfl rfl (fun _ _=>id) S T af
  case o6 =>
   refine Ai rfl fun ρ wx hC al aB h => ?_;have e1:_=_:=h.2.1;have e2:_=_:=h.2.2.1;refine⟨37,#[.slice x nx cx,Bg n],by go_simp,((J.out wx hC)).mono ?_⟩;rintro e w' ⟨rfl,aq⟩;exact⟨_,rfl,aq,rfl⟩
  case o7 =>
   exact olk (k:=μ) rfl rfl (fun _ _=>id) (fun _ _ h=>by obtain⟨v0,e0,rfl⟩:=h;exact e0) Kj Ba LG au an Z
  case o12 =>
   exact olA rfl rfl (fun _ _=>id) S T af
  case o13 =>
   exact olk (k:=n) rfl rfl (fun _ _=>id) (fun _ _=>id) Kj Ba LG av A a0
  case o14 =>
   refine BB rfl fun ρ wx hC al h => ?_;have e0:_=_:=h.1;have e1:_=_:=h.2.1;go_simp;exact HB.out
  case fin =>
   intro wx hC;rintro _ rfl;change wpList _ _ _ _ _ _;simp only[CB];have a9:=f.trans hC;cases a:bb with
   | true =>
    rw[a]at HB;have HN:Hid (L=false):=qh (by rw[<-g.out];exact fK fun h=>D.out.1 a (((MC HP.out F.out Q.out E.out).2 h).2 _ H.out));clear a D HB g;go_wp2;go_ret;exact⟨by rw[HN.out];rfl,a9⟩
   | false =>
    rw[a]at HB
    have HN:Hid (∀ i,i<k+1->Pl.coef o (mvd xs (l.getD i ([],0)).1)=(l.getD i ([],0)).2):=qh fun i hi=>by
     by_cases h:i<k
     · exact HI.out i h
     · have:i=k:=by omega
       subst this;exact D.out.2 a
    clear a D HB HI;go_wp2;go_roundw
    case rel=>exact⟨k+1,by go_num,by omega,a9,HN⟩
    case measure=>simp[intOf];omega
theorem LJ{m:List (Int×Value)}{k:Int}(l:(m.map (·.1)).Nodup){p:Int×Value}(hp:p∈D1 m k v):p=(k,v)\/(p∈m/\p.1≠k):=by
 unfold D1 at hp;cases d:BW k 0 m with
 | none =>
  rw[d]at hp;rcases fL.1 hp with h|h
  · exact .inr ⟨h,fun e=>Do.1 d (by rw[<-e];exact gJ h)⟩
  · exact .inl (fi.1 h)
 | some q =>
  obtain⟨i,n⟩:=q;rw[d]at hp;obtain⟨_,b⟩:=CJ d;rw[jn]at b;obtain⟨j,g,rfl⟩:=gK hp;simp only[iC]at g;simp only[List.getElem_set];by_cases a:i=j
  · rw[fG a];exact .inl rfl
  · rw[fl a];refine .inr ⟨fE g,fun e => ?_⟩;have c:i<m.length:=by
     rcases fS i m.length with h|h
     · exact h
     · rw[fH h]at b;cases b
    have f:m[i]=(k,n):=by rw[eZ c]at b;exact fD b
    have h1:(m.map (·.1))[i]'(by simpa using c)=(m.map (·.1))[j]'(by simpa using g):=by
     rw[List.getElem_map,List.getElem_map,f,e]
    exact a ((List.getElem_inj l).1 h1)
theorem LK{m:List (Int×Value)}{k:Int}{e:Int}(h:e=k\/e∈m.map (·.1)):e∈(D1 m k v).map (·.1):=by
 unfold D1;cases f:BW k 0 m with
 | none =>
  simp only[fY,fL,gD,iF,fi];exact h.symm
 | some q =>
  obtain⟨i,l⟩:=q;obtain⟨_,b⟩:=CJ f;rw[jn]at b;have a:i<m.length:=by
   rcases fS i m.length with h|h
   · exact h
   · rw[fH h]at b;cases b
  show e∈(m.set i (k,v)).map (·.1);rcases h with rfl|h
  · exact fy.2 ⟨(e,v),List.mem_set a _,rfl⟩
  · obtain⟨p,hp,rfl⟩:=fy.1 h;obtain⟨j,g,rfl⟩:=gK hp;by_cases c:i=j
    · subst c;have d:m[i]=(k,l):=by rw[eZ a]at b;exact fD b
      exact fy.2 ⟨(k,v),List.mem_set a _,by rw[d]⟩
    · refine fy.2 ⟨m[j],?_,rfl⟩;have h1:(m.set i (k,v))[j]'(by simpa using g)=m[j]:=by rw[List.getElem_set,fl c]
      rw[<-h1];exact fE _
theorem TH{R:Int×Value->Int×Value->Prop}(z:∀ p q,R p q->R q p){m:List (Int×Value)}{k:Int}{v:Value}(t:(m.map (·.1)).Nodup)(h:m.Pairwise R)(n:∀ p∈m,p.1≠k->R p (k,v)):(D1 m k v).Pairwise R:=by
 unfold D1;cases r:BW k 0 m with
 | none =>
  refine List.pairwise_append.2 ⟨h,lK _ _,fun p hp q w => ?_⟩;rw[fi.1 w];exact n p hp fun e=>Do.1 r (by rw[<-e];exact gJ hp)
 | some q =>
  obtain⟨i,A⟩:=q;obtain⟨_,a⟩:=CJ r;rw[jn]at a;have b:i<m.length:=by
   rcases fS i m.length with h|h
   · exact h
   · rw[fH h]at a;cases a
  have g:m[i]=(k,A):=by rw[eZ b]at a;exact fD a
  have c:∀ j (s:j<m.length),i≠j->m[j].1≠k:=fun j s l e=>by
   have h1:(m.map (·.1))[i]'(by simpa using b)=(m.map (·.1))[j]'(by simpa using s):=by
    rw[List.getElem_map,List.getElem_map,g,e]
   exact l ((List.getElem_inj t).1 h1)
  show(m.set i (k,v)).Pairwise R;refine gt.2 fun x y d f o => ?_;simp only[iC]at d f;simp only[List.getElem_set];by_cases h1:i=x
  · subst h1;rw[fG rfl,fl (by omega)];exact z _ _ (n _ (fE f) (c y f (by omega)))
  · rw[fl h1];by_cases h2:i=y
    · subst h2;rw[fG rfl];exact n _ (fE d) (c x d h1)
    · rw[fl h2];exact gt.1 h x y d f o
def F5:Value->Option Nat
 | .slice a _ _=>blk a
 | _=>none
structure PMp(w:World)(base B:Nat)(t:TypeId)(m:List (Int×Value))(F:Int->List Value):Prop where
 pmi:Bf w B m
 pmb:base<=B
 pme:∀ p∈m,∃ a n c,p.2 = .slice a n c/\0<n/\Own w base t a n c (F p.1)
 pmk:∀ e,F e≠[]->e∈m.map (·.1)
 pmd:m.Pairwise fun p q=>F5 p.2≠F5 q.2
section
variable {w w':World} {base B:Nat} {t:TypeId} {m:List (Int×Value)} {F:Int->List Value}
theorem PMp.ext(h:PMp w base B t m F)(e:Ext w w'):PMp w' base B t m F :=
 ⟨h.pmi.ext e,h.pmb,fun p hp=>by obtain⟨a,n,c,h1,h2,h3⟩:=h.pme p hp;exact⟨a,n,c,h1,h2,h3.ext e⟩,h.pmk,h.pmd⟩
theorem PMp.new(h:Bf w B [])(a:base<=B):PMp w base B t [] fun _=>[]:=⟨h,a,by simp,by simp,List.Pairwise.nil⟩
theorem PMp.congr{G:Int->List Value}(h:PMp w base B t m F)(e:∀ k,F k=G k):PMp w base B t m G:=by
 have:F=G:=funext e;subst this;exact h
theorem PMp.kept{g:Nat}{u:TypeId}{f:Array Value}{o:Nat×Nat}(h:PMp w base B t m F)(d:w.heap[g]?=some (.cells f u o))(i:t≠u)(k:w.grownBy w' (some g)):PMp w' base B t m F:=by
 refine⟨h.pmi.kept k (fun e => ?_),h.pmb,fun p hp => ?_,h.pmk,h.pmd⟩
 · have:B=g:=fD e;subst this;rw[h.pmi.obj]at d;cases d
 · obtain⟨a,n,c,h1,h2,h3⟩:=h.pme p hp;refine⟨a,n,c,h1,h2,h3.kept k ?_⟩;rcases h3.2 with⟨b,_⟩|⟨q,l,j,b,_,s,_⟩
   · simp only[fd]at b;left;rw[b.1];rfl
   · simp only[fd]at b;right;rw[b.1];intro r;have:q=g:=by simpa[blk]using r
     subst this;rw[s]at d;injection d with h4;injection h4 with _ h5;exact i h5
theorem PMp.keptO(h:PMp w base B t m F)(b:∀ p∈m,∀ g,F5 p.2=some g->some g≠row)(e:some B≠row)(d:w.grownBy w' row):PMp w' base B t m F:=by
 refine⟨h.pmi.kept d e,h.pmb,fun p hp => ?_,h.pmk,h.pmd⟩;obtain⟨a,n,c,h1,h2,h3⟩:=h.pme p hp;refine⟨a,n,c,h1,h2,h3.kept d ?_⟩;cases f:blk a with
 | none=>exact .inl rfl
 | some g=>exact .inr (b p hp g (by rw[h1];exact f))
theorem PMp.look(h:PMp w base B t m F)(k:Int):∃ a n c,Gw (.slice none 0 0) m k = .slice a n c/\Own w base t a n c (F k)/\(∀ p∈m,p.1≠k->∀ g,F5 p.2=some g->some g≠blk a)/\(∀ g,blk a=some g->∃ p∈m,F5 p.2=some g):=by
 unfold Gw;cases z:BW k 0 m with
 | none =>
  have h1:=Do.1 z;have h2:F k=[]:=fR fun D=>h1 (h.pmk k D);refine⟨none,0,0,rfl,by rw[h2];exact Own.nil _ _ _,fun p hp f g b => ?_,fun g b=>by cases b⟩;simp[blk]
 | some q =>
  obtain⟨i,v⟩:=q;obtain⟨_,l⟩:=CJ z;rw[jn]at l;have C:=gS l;obtain⟨a,n,c,h1,h2,h3⟩:=h.pme _ C;have o:v = .slice a n c:=h1;refine⟨a,n,c,o,h3,fun p hp f g b => ?_,fun g b=>⟨_,C,by rw[h1];exact b⟩⟩;obtain⟨j,A,rfl⟩:=gK hp;have d:i<m.length:=by
   rcases fS i m.length with h|h
   · exact h
   · rw[fH h]at l;cases l
  have r:m[i]=(k,v):=by rw[eZ d]at l;exact fD l
  have x:i≠j:=fun e=>by subst e;rw[r]at f;exact f rfl
  have h5:F5 m[i].2=blk a:=by rw[r];show F5 v=_;rw[o];rfl
  intro e;rcases Nat.lt_or_gt_of_ne x with y|s
  · exact gt.1 h.pmd i j d A y (by rw[h5,<-e,b])
  · exact gt.1 h.pmd j i A d s (by rw[h5,<-e,b])
theorem Dp(h:Own w base e a n c cs)(k:Bf w r m):blk a≠some r:=by
 intro d;rcases h.2 with⟨b,_⟩|⟨g,i,j,b,_,f,_⟩
 · simp only[fd]at b;rw[b.1]at d;cases d
 · simp only[fd]at b;rw[b.1]at d;have:g=r:=by simpa[blk]using d
   subst this;rw[k.obj]at f;cases f
theorem PMp.step{k:Int}(h:PMp w base B t m F)(H:∀ p∈m,p.1≠k->∀ g,F5 p.2=some g->some g≠blk a)
 (y:Own w1 base t a' (n+1) c' (F k ++ [v])) (C:w.grownBy w1 (blk a)) (j:blk a'=blk a\/∃ g,blk a'=some g/\w.heap.size<=g) (M:Bf w2 B (D1 m k (.slice a' (n+1) c'))) (x:Bf w1 B m) (D:w1.grownBy w2 (some B)) :
 PMp w2 base B t (D1 m k (.slice a' (n+1) c')) fun e=>if e=k then F k ++ [v]else F e:=by
 have i:∀ {l:Option Addr} {E r:Nat} {s:List Value},Own w1 base t l E r s->Own w2 base t l E r s:=fun {l E r s} J=>J.kept D (by
  cases z:blk l with
  | none=>exact .inl rfl
  | some g=>exact .inr (fun e=>Dp J x (by rw[z,e])))
 refine⟨M,h.pmb,fun p hp => ?_,fun e he => ?_,?_⟩
 · rcases LJ h.pmi.nodup hp with rfl|⟨hp,c⟩
   · refine⟨a',n+1,c',rfl,by omega,?_⟩;simp only[ke];exact i y
   · obtain⟨f,K,G,o,h0,d⟩:=h.pme p hp;refine⟨f,K,G,o,h0,?_⟩;simp only[fl c];have b:F5 p.2=blk f:=by rw[o];rfl
     refine i (d.kept C ?_);cases A:blk f with
     | none=>exact .inl rfl
     | some g=>exact .inr (H p hp c g (by rw[b,A]))
 · by_cases I:e=k
   · exact LK (.inl I)
   · simp only[fl I]at he;exact LK (.inr (h.pmk e he))
 · refine TH (fun p q h=>fun e=>h e.symm) h.pmi.nodup h.pmd fun p hp c => ?_;show F5 p.2≠blk a';obtain⟨f,K,G,o,h0,d⟩:=h.pme p hp;have b:F5 p.2=blk f:=by rw[o];rfl
   obtain⟨g,rfl,_,O⟩:=d.place h0;rcases j with j|⟨L,j,N⟩
   · rw[j,b];exact H p hp c g (by rw[b];rfl)
   · rw[j,b];intro e;have:g=L:=by simpa[blk]using e
     omega
end
theorem Kl:prog.underlying 90=some (.map 101 91):=by kernel_rfl
theorem LL(w:World):(zeroValue 91).run prog w = .ok (.slice none 0 0) w:=by kernel_rfl
def pvM(b:Nat):Value := .pointer (some ⟨b,0,none⟩)
abbrev FMs:=List (PLs×Nat)
def fz:PLs×Nat:=([],0)
noncomputable def grpI (N:Nat) (M:FMs) (h:Int):List Nat:=(List.range M.length).filter fun i=>decide (fpI (idn N) (M.getD i fz).1=h)
structure Ft(w:World)(base fB N:Nat)(M:FMs)(ps:List Nat)(a:Option Addr)(c rB:Nat)(fm:List (Int×Value)):Prop where
 fwl:ps.length=M.length
 fwn:ps.Nodup
 fwa:Arr w fB 93 [.slice a M.length c,.map (some rB)]
 fwr:base<=rB/\rB<fB
 fwo:Own w base 95 a M.length c (ps.map pvM)
 fwm:PMp w base rB 95 fm fun h=>(grpI N M h).map fun i=>pvM (ps.getD i 0)
 fwd:∀ p∈fm,∀ g,F5 p.2=some g->some g≠blk a
 fwp:∀ i,i<M.length->MbA w (fB+1) (ps.getD i 0) (M.getD i fz).1 (M.getD i fz).2
 fwb:∀ i,i<M.length->fB<ps.getD i 0
 fwc:∀ i,i<M.length->Pl.Canon N (M.getD i fz).1/\(M.getD i fz).1.length<=4096/\(M.getD i fz).2<=1000
theorem Ft.ext{w f:World}{base fB N:Nat}{M:FMs}{ps:List Nat}{a:Option Addr}{c d:Nat}{b:List (Int×Value)}(h:Ft w base fB N M ps a c d b)(e:Ext w f):Ft f base fB N M ps a c d b :=
 ⟨h.fwl,h.fwn,h.fwa.ext e,h.fwr,h.fwo.ext e,h.fwm.ext e,h.fwd,fun i g=>(h.fwp i g).ext e,h.fwb,h.fwc⟩
def ImO(xs:List Int)(x:PLs)(M:FMs):Option Nat->Prop
 | some i=>i<M.length/\Rl xs x (M.getD i fz).1
 | none=>∀ i,i<M.length->¬ Rl xs x (M.getD i fz).1
def TI(ps:List Nat):Option Nat->Value
 | some i=>pvM (ps.getD i 0)
 | none => .pointer none
theorem I3{bb:Nat}{M:FMs}{fm:List (Int×Value)}{l:PLs}{x:Option Addr}(hF:Ft w base fB N M ps a c rB fm)(hM:MbA w bb B l cB)(hx:SlI w x nx cx xs)(hp:Af xs=true)(W:xs.length=N)(Z:Pl.Canon N l)(hb:l.length<=4096) :
 Calls prog 46 #[.pointer (some ⟨fB,0,none⟩),.pointer (some ⟨B,0,none⟩),.slice x nx cx] w fun e w'=>∃ o,e = .returned (TI ps o)/\Ext w w'/\ImO xs l M o:=by
 classical
 have a7:N<=6:=by rw[<-W];exact(Ap hp).1
 have f1:w.cell? ⟨fB,1,none⟩=some (.map (some rB)):=hF.fwa.cell (i:=1) (by simp);have P:=hF.fwm.pmi;obtain⟨ag,y,cg,b,Q,_,_⟩:=hF.fwm.look (fpI xs l);have f:=Q.sl;have aa:y<=9223372036854775807:=by have h1:=f.cap;have h2:=f.max;unfold maxLen at h2;omega
 have D:(grpI N M (fpI xs l)).length=y:=by have:=f.len;rw[fq]at this;exact this
 have E:∀ j,j<y->(grpI N M (fpI xs l)).getD j 0<M.length/\fpI (idn N) (M.getD ((grpI N M (fpI xs l)).getD j 0) fz).1=fpI xs l:=fun j V=>by
  have h1:(grpI N M (fpI xs l)).getD j 0∈grpI N M (fpI xs l):=by
   rw[gqq,eZ (by omega)];exact fE _
  have h2:=ig.1 h1;exact⟨gO.1 h2.1,gX h2.2⟩
 have m:∀ i,i<M.length->Rl xs l (M.getD i fz).1->i∈grpI N M (fpI xs l):=fun i r s=>by
  refine ig.2 ⟨gO.2 r,gn ?_⟩;exact(WE a7 s hp W Z (hF.fwc i r).1).symm
 obtain⟨g,hg⟩:∃ g,grpI N M (fpI xs l)=g:=⟨_,rfl⟩;obtain⟨hv,U⟩:∃ h,fpI xs l=h:=⟨_,rfl⟩;have C:=qh (fun(wy:World) (hy:Ext w wy)=>D2 (hM.ext hy) (hx.ext hy) hp W Z hb);rw[hg]at f D E m;rw[U]at C b;have a1:=qh E;have J:=qh D;have a0:=qh m;have HF:=qh hF;have a4:=qh hM;have HC:=qh Z;have HP:=qh hp;have HL:=qh W;have HB:=qh hb;clear hF hM Z hp W E D m Q hg U hb
 go_enter func46,ntmps46
 go_upto_region 1 with(fail)
 refine Ad
  [hdP fB 0,hdP fB 0,hdP fB 1,he (.map (some rB)),hdP B 0,hdS x nx cx,hp (fun v I=>v = .int .u64 hv),hdS ag y cg,hdI y,hdI 0]
  ⟨fun _ _ _ _ h=>h,trivial⟩ ⟨?o0,?o1,?o2,?o3,?o4,?o5,?o6,?o7,?o8,?o9,trivial⟩ ?fin
 case o0 | o4 | o5=>exact omv
 case o1=>exact onc
 case o2=>exact ofa (d:=1)
 case o3=>exact ol
 case o8 =>
  refine BB rfl fun ρ I q t h => ?_
  try have e0:_=_:=h.1
  try have e1:_=_:=h.2.1
  try have e2:_=_:=h.2.2.1
  have a9:=q.cell f1;go_simp
  try (first | (intros;omega) | exact fO _ (by omega))
 case o6 =>
  refine Ai rfl fun ρ I q t ab h => ?_;have e1:_=_:=h.2.1;have e2:_=_:=h.2.2.1;refine⟨47,#[.pointer (some ⟨B,0,none⟩),.slice x nx cx],by go_simp,((C.out I q)).mono ?_⟩;rintro e w' ⟨rfl,a6⟩;exact⟨_,rfl,a6,rfl⟩
 case o7 =>
  exact olu (k:=hv) rfl rfl (fun _ _=>id) (fun _ _ h=>by obtain⟨v0,e0,rfl⟩:=h;exact e0) Kl underlying101 LL P b
 case o9 =>
  refine BB rfl fun ρ I q t h => ?_;have a9:=q.cell f1;go_simp
 case fin =>
  intro I q;rintro _ rfl;change wpList _ _ _ _ _ _;simp only[CB];have S:=f.ext q;have z:=qh q;clear f1 C b P q;go_wp2;obtain⟨wo,Y⟩:∃ wo,I=wo:=⟨_,rfl⟩;rw[Y]at z S |-;have L:=z.out
  go_loopw[18] (fun iv wr=>∃ k:Nat,iv = .int .i64 k/\k<=y/\Ext w wr/\Hid (∀ j,j<k->¬ Rl xs l (M.getD (g.getD j 0) fz).1)) (fun iv _=>y-(intOf iv).toNat)
  case atStart=>exact⟨0,rfl,fu _,L,qh (fun j V=>absurd V (by omega))⟩
  case round =>
   clear L Y z S;obtain⟨k,rfl,hk,A,K⟩:=hrel;by_cases F:k<y
   case neg =>
    have HN:Hid (ImO xs l M none):=qh fun i r s=>by
     obtain⟨j,V,e⟩:=gK (a0.out i r s);have h1:=K.out j (by have:=J.out;omega);have e2:g.getD j 0=i:=by rw[gqq,eZ V,fW,e]
     rw[e2]at h1;exact h1 s
    clear K;go_wp2;go_ret;exact⟨none,rfl,A,HN.out⟩
   have R:=f.ext A;obtain⟨b9,o9,rfl,T⟩:=R.rd (by omega);have gk:=T k F;obtain⟨i,r⟩:∃ i,g.getD k 0=i:=⟨_,rfl⟩;have X:(g.map fun i=>pvM (ps.getD i 0)).getD k undef = .pointer (some ⟨ps.getD i 0,0,none⟩):=by
    have h1:k<g.length:=by rw[J.out];exact F
    rw[<-r];simp[h1,pvM]
   rw[X]at gk;obtain⟨n,a8⟩:=a1.out k F;rw[r]at n;have a3:=qh n;obtain⟨h1,h2,h3⟩:=HF.out.fwc i n;have G:=qh (N7 (a4.out.ext A) ((HF.out.fwp i n).ext A) (hx.ext A) HP.out HL.out HC.out h1 HB.out h2);have a2:=qh r;obtain⟨pb,H⟩:∃ p,ps.getD i 0=p:=⟨_,rfl⟩;rw[H]at gk G;have a5:=qh H;clear T X r n a8 h1 h2 h3 H R
   go_wp2_with fail
   refine G.out.mono ?_;rintro e w1 ⟨rfl,O⟩;clear G;cases s:rlB xs l (M.getD i fz).1 with
   | true =>
    have HR:Hid (ImO xs l M (some i)):=qh ⟨a3.out,gX s⟩;clear s K gk;go_wp2;go_ret;exact⟨some i,by show _=Ending.returned (pvM (ps.getD i 0));rw[a5.out];rfl,A.trans O,HR.out⟩
   | false =>
    have HN:Hid (∀ j,j<k+1->¬ Rl xs l (M.getD (g.getD j 0) fz).1):=qh fun j V=>by
     by_cases h:j<k
     · exact K.out j h
     · have:j=k:=by omega
       subst this;rw[a2.out];exact of_decide_eq_false s
    clear s K gk;go_wp2;go_roundw
    case rel=>exact⟨k+1,by go_num,by omega,A.trans O,HN⟩
    case measure=>simp[intOf];omega
theorem RF:Cq prog 57 An 6 48:=⟨by kernel_rfl,rfl,by omega⟩
def ME(w:World)(v:Value)(t:TypeId)(cs:List Value):Prop:=∃ g,v = .slice (some ⟨g,0,none⟩) 1 1/\Arr w g t cs
theorem ME.x(t:TypeId)(cs:List Value):∀ (v:Value) (w a:World),Ext w a->ME w v t cs->ME a v t cs:=fun _ _ _ e ⟨g,h1,h2⟩=>⟨g,h1,h2.ext e⟩
theorem EF{g:Nat}(h:Arr w g t cs)(a:AB w r m):g≠r:=fun e=>by
 subst e;have h1:w.heap[g]?=_:=h;rw[a.obj]at h1;cases h1
theorem Hj(h:AE w base e k a n c rows)(l:AB w r m):blk a≠some r:=by
 intro d;rcases h.2.2 with⟨b,_⟩|⟨g,i,j,b,_,f,_⟩
 · simp only[fd]at b;rw[b.1]at d;cases d
 · simp only[fd]at b;rw[b.1]at d;have:g=r:=by simpa[blk]using d
   subst this;rw[l.obj]at f;cases f
theorem Hk{g:Nat}(h:AE w base e k a n c rows)(l:Arr w g t cs)(o:e≠t):some g≠blk a:=by
 intro d;rcases h.2.2 with⟨b,_⟩|⟨j,f,i,b,_,m,_⟩
 · simp only[fd]at b;rw[b.1]at d;cases d
 · simp only[fd]at b;rw[b.1]at d;have:g=j:=by simpa[blk]using d
   subst this;have h1:w.heap[g]?=_:=l;rw[m]at h1;injection h1 with h2;injection h2 with _ h3;exact o h3
theorem N8(h:Own w base e a n c cs)(b:AB w r m):blk a≠some r:=by
 rcases CC h b with h1|h1
 · rw[h1];simp
 · exact h1
theorem CK{g:Nat}(h:Own w base e a n c cs)(b:Arr w g t cs')(d:e≠t):some g≠blk a:=by
 rcases AK h b d with h1|h1
 · rw[h1];simp
 · exact fun e=>h1 e.symm
theorem EG{g:Nat}(h:Own w base e a n c cs)(f:blk a=some g):∃ b j,w.heap[g]?=some (Obj.cells b e j):=by
 rcases h.2 with⟨d,_⟩|⟨k,i,b,d,_,l,_⟩
 · simp only[fd]at d;rw[d.1]at f;cases f
 · simp only[fd]at d;rw[d.1]at f;have:k=g:=by simpa[blk]using f
   subst this;exact⟨_,_,l⟩
theorem TJ{g:Nat}(h:AE w base e k a n c rows)(f:blk a=some g):∃ b j,w.heap[g]?=some (Obj.cells b e j):=by
 rcases h.2.2 with⟨d,_⟩|⟨l,i,b,d,_,m,_⟩
 · simp only[fd]at d;rw[d.1]at f;cases f
 · simp only[fd]at d;rw[d.1]at f;have:l=g:=by simpa[blk]using f
   subst this;exact⟨_,_,m⟩
theorem MF(h:Own w b e a n c cs)(f:AE w b' e' k a' n' c' rows)(j:e≠e'):blk a=none\/blk a≠blk a':=by
 cases i:blk a' with
 | none=>cases h1:blk a with | none=>exact .inl rfl | some g=>exact .inr (by simp)
 | some g =>
  obtain⟨d,l,h1⟩:=TJ f i;exact AK h h1 j
theorem N9(h:AE w b e k a n c rows)(f:Own w b' e' a' n' c' cs)(j:e≠e'):blk a=none\/blk a≠blk a':=by
 cases i:blk a' with
 | none=>cases h1:blk a with | none=>exact .inl rfl | some g=>exact .inr (by simp)
 | some g =>
  obtain⟨d,l,h1⟩:=EG f i;exact Cw h h1 j
theorem Ve{k:List Int}(h:k ∉ m.map (·.1)):Ho m k v=m ++ [(k,v)]:=by
 unfold Ho;rw[Bh.2 h]
def NmI(w:World)(base mB r:Nat)(l:PLs)(k:Nat)(wr:World):Prop:=∃ ae ce am cm,Arr wr mB 100 (mbL r ae k ce am k cm 1)/\AB wr r ((l.take k).map kvT)/\AE wr base 57 6 ae k ce ((l.take k).map F4)/\Own wr base 101 am k cm ((l.take k).map LH)/\Ext w wr
theorem Jn{ts:List Tx}{l:PLs}(h:CP w a n c ts)(hl:ts=l.map fun t=>(txt t.2,t.1))(hc:Pl.Canon N l)(hN:N<=6)(hn:n<=4096)(hs:∀ t∈ts,t.1.length<=1000) :
 Calls prog 45 #[.agg #[.int .i64 vars,.slice a n c]] w fun e w'=>∃ B,e = .returned (.pointer (some ⟨B,0,none⟩))/\Ext w w'/\w.heap.size<=B/\MbA w' w.heap.size B l 1:=by
 obtain⟨bP,hS,aZ,hq⟩:=h;have HQ:=qh hq;have bk:l.length=n:=by rw[<-aZ,hl,fq]
 have b6:=qh bk;have HL:=qh hl;have HC:=qh hc;have HS:=qh hs;clear hq aZ hl hc hs bk
 go_enter func45,ntmps45
 go_upto_region 1 with(fail)
 refine Bv ?_;intro w0 b9 ar bs;have p0:=ar.c 0 rfl;have p1:=ar.c 1 rfl;clear ar
 go_upto_region 2 with(refine Fx rfl rfl ?_;intro w1 aa a9 S)
 refine Bv ?_;intro w2 a1 P c0;rw[bs]at aa S;obtain⟨r,hr⟩:∃ r,w.heap.size+1=r:=⟨_,rfl⟩;obtain⟨o,bm⟩:∃ m,w1.heap.size=m:=⟨_,rfl⟩;rw[hr]at aa S P |-;rw[bm]at P S |-;have b8:Arr w2 o 100 (mbL r none 0 0 none 0 0 1):=P;have bc:=aa.ext a1;have aK:=(b9.trans a9).trans a1;have bf:w.heap.size<=r:=by omega
 have aC:o≠r:=by omega
 have bW:w.heap.size<=o:=by omega
 have q0:=(a9.trans a1).cell p0;have q1:=(a9.trans a1).cell p1;clear aa P p0 p1 b9 a9 a1 bs c0 hr bm S;go_wp2
 go_loopw[13] (fun iv wr=>∃ k:Nat,iv = .int .i64 k/\k<=n/\NmI w w.heap.size o r l k wr) (fun iv _=>n-(intOf iv).toNat)
 case atStart=>exact⟨0,rfl,fu _,none,0,none,0,b8,bc,AE.nil _ _ _ _,Own.nil _ _ _,aK⟩
 case round =>
  clear bc b8 aK q0 q1;obtain⟨k,rfl,hk,ae,ce,am,cm,hB,hM,a2,ac,hE⟩:=hrel;by_cases bl:k<n
  · have ay:=hS.ext hE;obtain⟨bq,c9,rfl,bX⟩:=ay.rd (by omega);obtain⟨s,ax,nx,aq,b3,a4,aE⟩:=HQ.out k bl;have hY:=Arr.new wr 46 (tmL ⟨#[]⟩ none 0 0);have aH:bP.getD k []=tmL s ax nx aq:=b3
    go_upto_region 5 with(first
     | (refine Dz rfl rfl CQ rfl ay bl ?_;rw[aH])
     | (refine Aa (vs:=tmL s ax nx aq) rfl rfl rfl rfl rfl CQ hY rfl (FG _ _ _ _) ?_;intro w5 V bh))
    have au:Ext wr w5:=((Ext.refl wr).alloc _).grownR bh (lrf _);obtain⟨X,hX⟩:∃ x,wr.heap.size=x:=⟨_,rfl⟩;rw[hX]at V |-;have j:k<l.length:=by have:=b6.out;omega
    obtain⟨t,ht⟩:∃ t,l.getD k ([],0)=t:=⟨_,rfl⟩;have aD:ts.getD k tm0=(txt t.2,t.1):=by
     rw[HL.out,<-ht];simp[j]
    have bp:t∈l:=by
     rw[<-ht,gqq,eZ j];exact fE _
    have bo:t.1.length=N:=HC.out.len t bp;have M:l.take (k+1)=l.take k ++ [t]:=by
     rw[ff j,<-ht];simp[j]
    rw[aD]at a4 aE;have c7:s.size<=1000:=by
     have h1:=HS.out (ts.getD k tm0) (by rw[gqq,eZ (by rw[HL.out,fq];exact j)];exact fE _);rw[aD,<-a4,AD]at h1;exact h1
    have bn:s=ofL (txt t.2):=by rw[<-TF s,a4]
    have y0:=V.c 0 rfl;have y1:=V.c 1 rfl;have ao:SlI w5 ax nx aq t.1:=aE.ext (hE.trans au);have bO:nx<=6:=by have h1:=ao.len;omega
    have aA:(Ab t.1).length=6:=AA (by omega);have af:Bg (Ab t.1) = .agg ((Ab t.1).map (Value.int .i64)).toArray:=rfl;have R:Ab t.1 ∉ ((l.take k).map kvT).map (·.1):=by
     intro hm;rw[j4]at hm;obtain⟨u,hu,he⟩:=fy.1 hm;have h1:u.1=t.1:=Ei (by rw[HC.out.len u (im hu),bo]) he;have h2:=Fr HC.out;rw[<-iz k l,fY,iq]at h2;have h3:t∈l.drop k:=by
      have e1:t=l[k]:=by rw[<-ht];simp[j]
      rw[gg j,e1];exact List.mem_cons_self
     exact h2.2.2 u.1 (gJ hu) t.1 (gJ h3) h1
    have aI:Hid (Ho ((l.take k).map kvT) (Ab t.1) (.string s)=(l.take (k+1)).map kvT):=qh (by
     rw[Ve R,M,fY,bn]
     rfl)
    have b7:=qh M;have bR:Hid (CI (Ah s)=CI (txt t.2)):=qh (by rw[a4]);have ap:Hid ((Ab t.1).map (Value.int .i64)=F4 t):=qh rfl;clear hY bh b3 aH bX ay aE a4 aD bp bo M R bn ht j
    go_wp2_with fail
    refine(Cl ao bO).mono ?_;rintro e w7 ⟨rfl,av⟩;obtain⟨κ,bt⟩:∃ κ,Ab t.1=κ:=⟨_,rfl⟩;rw[af];rw[bt]at aA af aI ap |-;have hA7:=Arr.new w7 57 An;obtain⟨x0,x1,x2,x3,x4,x5,br⟩:=six aA;have a3:κ.map (Value.int .i64)=[.int .i64 x0,.int .i64 x1,.int .i64 x2,.int .i64 x3,.int .i64 x4,.int .i64 x5]:=by rw[br];rfl
    rw[a3];rw[a3]at ap;have bU:Agg prog 57 ([.int .i64 x0,.int .i64 x1,.int .i64 x2,.int .i64 x3,.int .i64 x4,.int .i64 x5]:List Value).length:=Cg;have bj:∀ u∈([.int .i64 x0,.int .i64 x1,.int .i64 x2,.int .i64 x3,.int .i64 x4,.int .i64 x5]:List Value),u.oneCell'=true:=by rw[<-a3];exact A4 _
    have bQ:Hid ((Value.agg #[.int .i64 x0,.int .i64 x1,.int .i64 x2,.int .i64 x3,.int .i64 x4,.int .i64 x5])=Bg κ):=qh (by rw[af,a3]);clear af a3 br bt
    go_upto_region 6 with(refine Aa (vs:=[.int .i64 x0,.int .i64 x1,.int .i64 x2,.int .i64 x3,.int .i64 x4,.int .i64 x5]) rfl rfl rfl rfl rfl bU hA7 rfl bj ?_;intro w8 q bi)
    have ba:Ext w7 w8:=((Ext.refl w7).alloc _).grownR bi (lrf _);have h58:=av.trans ba;have Z:=au.trans h58;have c5:∀ g,blk ae=some g->g<X:=fun g hg=>by rw[<-hX];exact(a2.lt hg).2
    have c6:o<X:=by rw[<-hX];exact hB.lt
    have bJ:X<w7.heap.size:=by have h1:=av.size;have h2:=V.lt;omega
    obtain⟨Y,be⟩:∃ y,w7.heap.size=y:=⟨_,rfl⟩;rw[be]at q bJ |-;have a0:=hB.ext Z;have bd:=hM.ext Z;have ak:=a2.ext Z;have al:=ac.ext Z;have az:=V.ext h58;have aO:=hE.trans Z;replace y0:=h58.cell y0;replace y1:=h58.cell y1;have b0:=a0.c 0 rfl;have b1:=a0.c 1 rfl;have b2:=a0.c 2 rfl;have z0:=q.c 0 rfl;have z1:=q.c 1 rfl;have z2:=q.c 2 rfl;have z3:=q.c 3 rfl;have z4:=q.c 4 rfl;have z5:=q.c 5 rfl;clear hA7 bi ba av h58 Z hB hM a2 ac V hE ao au be hX
    refine Ad
     [hdP o 0,hdP o 0,hdP o 0,he (.map (some r)),he (.agg #[.int .i64 x0,.int .i64 x1,.int .i64 x2,.int .i64 x3,.int .i64 x4,.int .i64 x5]),hdP X 0,he (.string s)]
     trivial ⟨?o0,?o1,?o2,?o3,?o4,?o5,?o6,trivial⟩ ?fin
    case o0=>exact omv
    case o1=>exact onc
    case o2 | o5=>exact ofa (d:=0)
    case o3 | o6=>exact ol
    case o4 =>
     refine BB rfl fun ρ f b Q h => ?_
     try have e0:_=_:=h.1
     try have e1:_=_:=h.2.1
     try have e2:_=_:=h.2.2.1
     have bu:=b.cell z0;have bv:=b.cell z1;have bw:=b.cell z2;have bx:=b.cell z3;have bz:=b.cell z4;have bA:=b.cell z5;have ag:=b.cell y0;have c8:=b.cell b0;go_simp
     try (first | (intros;omega) | exact fO _ (by omega))
    case fin =>
     intro f b;change wpList _ _ _ _ _ _;simp only[CB];have W:=bd.ext b
     go_upto_region 7 with(refine Iy (k:=κ) (v := .string s) rfl (Or.inl rfl) Kj Ba rfl bQ.out rfl W aA ?_;intro w9 ab I)
     rw[aI.out]at ab;have a8:=(a0.ext b).kept I (fun e=>by have h1:=fD e;exact aC h1);have aV:=(ak.ext b).kept I (Or.inr (Hj (ak.ext b) W));have an:=(al.ext b).kept I (CC (al.ext b) W);have aw:Ext w w9:=(aO.trans b).grown I (fun g h=>by cases h;exact bf);have ad:=(az.ext b).kept I (fun e=>by have h1:=fD e;exact(EF (az.ext b) W) h1);have L:=(q.ext b).kept I (fun e=>by have h1:=fD e;exact(EF (q.ext b) W) h1);have bZ:=(ft b.size I.size)
     clear W I bd a0 ak al az q aO y0 y1 z0 z1 z2 z3 z4 z5 b0 b1 b2;have y0:=ad.c 0 rfl;have b1:=a8.c 1 rfl;have z0:=L.c 0 rfl;have z1:=L.c 1 rfl;have z2:=L.c 2 rfl;have z3:=L.c 3 rfl;have z4:=L.c 4 rfl;have z5:=L.c 5 rfl;have b4:=fun(f:World) (b:Ext w9 f)=>qh (And.intro (b.cell z0) (And.intro (b.cell z1) (And.intro (b.cell z2) (And.intro (b.cell z3) (And.intro (b.cell z4) (And.intro (b.cell z5) (And.intro (b.cell y0) (b.cell b1))))))))
     refine Ep 7 (by decide) (by kernel_rfl) (fun f=>Ext w9 f)
      [he (.pointer (some ⟨o,0,none⟩)),
 he (.pointer (some ⟨o,0,none⟩)),
 he (.pointer (some ⟨o,0,none⟩)),
 he (.pointer (some ⟨o,1,none⟩)),
 he (.slice ae k ce),
 he (.agg #[.int .i64 x0,.int .i64 x1,.int .i64 x2,.int .i64 x3,.int .i64 x4,.int .i64 x5]),
 hp (fun v f=>ME f v 57 [.int .i64 x0,.int .i64 x1,.int .i64 x2,.int .i64 x3,.int .i64 x4,.int .i64 x5])]
      (by kernel_rfl) (by kernel_rfl) (fun _ _ _ d _ h=>by cases d <;> exact h) (fun _ _ e h=>h.trans e) ((Ext.refl w9).drew) ⟨trivial,trivial,trivial,trivial,trivial,trivial,ME.x _ _,trivial⟩ ⟨?o0,?o1,?o2,?o3,?o4,?o5,?o6,trivial⟩ ?fin
     case o0 | o1=>exact omv
     case o2=>exact onc
     case o3=>exact ofa (d:=1)
     case o4=>exact ol
     case o5 =>
      refine BB rfl fun ρ f b Q h => ?_;have e0:_=_:=h.1;obtain⟨bu,bv,bw,bx,bz,bA,ag,c1⟩:=(b4 f b).out;go_simp
     case o6 =>
      refine Bj rfl ?_;intro ρ f hp b h;have Q:=hp.const;have bg:=hp.func;have e0:_=_:=h.1;obtain⟨bu,bv,bw,bx,bz,bA,ag,c1⟩:=(b4 f b).out;exact⟨.slice (some ⟨f.heap.size,0,none⟩) 1 1,f.alloc (.cells #[.int .i64 x0,.int .i64 x1,.int .i64 x2,.int .i64 x3,.int .i64 x4,.int .i64 x5] 57),by go_simp,(Ext.refl _).alloc _,_,rfl,Arr.new _ _ _⟩
     case fin =>
      intro f b;rintro _ bb;change wpList _ _ _ _ _ _;simp only[mG,mF,DX,fP,jU,iB,gP,Act.put,jI,jr,jO];obtain⟨c3,rfl,aP⟩:=id bb;have p:=aV.ext b;have aW:=Ey (k:=6) aP rfl
      go_upto_region 8 with(refine Nd rfl rfl (by kernel_rfl) RF rfl p rfl aW (by intro r' hr u hu;rw[fi.1 hr]at hu;exact bj u hu) (by unfold maxLen;omega) (by omega) (ft aw.size b.size) ?_;intro T U a5 ai D bK;have z:=(a8.ext b).kept D (Hk p (a8.ext b) (by decide));have bS:a5.cell? ⟨o,1,none⟩=some (.slice ae k ce):=z.cell (i:=1) (by simp[mbL]);have bM:=z.frozen 1)
      have aL:Ext w a5:=(aw.trans b).grown D (fun g hg=>(p.lt hg).1);have aS:=(ab.ext b).kept D (fun e=>absurd e.symm (Hj p (ab.ext b)));have K:=(an.ext b).kept D (MF (an.ext b) p (by decide));have aY:=(ad.ext b).kept D (Hk p (ad.ext b) (by decide));have aJ:Arr (a5.setCell ⟨o,1,none⟩ (.slice T (k+1) U)) o 100 (mbL r T (k+1) U am k cm 1):=z.set 1 _;have E:=Aj a5 o 1 (.slice T (k+1) U);have aG:=AE.kept ai E (Cw ai z (by decide))
      have bC:=K.kept E (AK K z (by decide));have aT:=aS.kept E (fun e=>aC (fD e).symm);have bI:=aY.kept E (fun e=>by have h1:=fD e;omega);have aM:=aL.grown E (fun g hg=>by have h1:=fD hg;omega);clear p aW ai D bK z bS bM aL aS K aY E aP bb a8 ab aV an ad L aw y0 b1 z0 z1 z2 z3 z4 z5 bZ b;generalize a5.setCell ⟨o,1,none⟩ (.slice T (k+1) U)=aF at *
      have y0:=bI.c 0 rfl;have b2:=aJ.c 2 rfl;have b5:=fun(f:World) (b:Ext aF f)=>qh (And.intro (b.cell y0) (b.cell b2))
      refine Ep 9 (by decide) (by kernel_rfl) (fun f=>Ext aF f)
       [he (.pointer (some ⟨o,0,none⟩)),
 he (.pointer (some ⟨o,0,none⟩)),
 he (.pointer (some ⟨o,0,none⟩)),
 he (.pointer (some ⟨o,2,none⟩)),
 he (.slice am k cm),
 he (.pointer (some ⟨X,0,none⟩)),
 he (.string s),
 hp (fun v f=>v = .int .u64 (CI (Ah s))),
 hp (fun v f=>ME f v 101 [.int .u64 (CI (Ah s))])]
       (by kernel_rfl) (by kernel_rfl) (fun _ _ _ d _ h=>by cases d <;> exact h) (fun _ _ e h=>h.trans e) ((Ext.refl aF).drew) ⟨trivial,trivial,trivial,trivial,trivial,trivial,trivial,fun _ _ _ _ h=>h,ME.x _ _,trivial⟩ ⟨?o0,?o1,?o2,?o3,?o4,?o5,?o6,?o7,?o8,trivial⟩ ?fin
      case o0 | o1=>exact omv
      case o2=>exact onc
      case o3=>exact ofa (d:=2)
      case o4 | o6=>exact ol
      case o5=>exact ofa (d:=0)
      case o7 =>
       refine Ai rfl fun ρ f b Q bg h => ?_;have e1:_=_:=h.2.1;obtain⟨ag,c2⟩:=(b5 f b).out;refine⟨71,#[.string s],by go_simp,(Pm (by omega)).mono ?_⟩;rintro e w' ⟨rfl,bV⟩;exact⟨_,rfl,bV,rfl⟩
      case o8 =>
       refine Bj rfl ?_;intro ρ f hp b h;have Q:=hp.const;have bg:=hp.func;obtain⟨v0,e0,rfl⟩:=h.1;obtain⟨ag,c2⟩:=(b5 f b).out;exact⟨.slice (some ⟨f.heap.size,0,none⟩) 1 1,f.alloc (.cells #[.int .u64 (CI (Ah s))] 101),by go_simp,(Ext.refl _).alloc _,_,rfl,Arr.new _ _ _⟩
      case fin =>
       intro wy F;rintro _ rfl;rintro _ aR;change wpList _ _ _ _ _ _;simp only[mG,mF,DX,fP,jU,iB,gP,Act.put,jI,jr,jO];obtain⟨c4,rfl,aQ⟩:=id aR;have C:=bC.ext F;have O:=aJ.ext F;have bT:=O.c 2 rfl;have aX:=aQ.sl (k:=1) (by simp) (by unfold maxLen;simp)
       go_wp2_with(refine BS rfl rfl underlying98 AP rfl rfl C rfl aX (by simp[Value.oneCell']) (by unfold maxLen;omega) (by omega) (ft aM.size F.size) ?_;intro a6 a7 ah aj G bL;have A:=O.kept G (CK C O (by decide));have bE:ah.cell? ⟨o,2,none⟩=some (.slice am k cm):=A.cell (i:=2) (by simp[mbL]);have bN:=A.frozen 2)
       have aN:Ext w ah:=(aM.trans F).grown G (fun g hg=>(C.lt hg).1);have aU:=(aT.ext F).kept G (fun e=>absurd e.symm (N8 C (aT.ext F)));have J:=(aG.ext F).kept G (N9 (aG.ext F) C (by decide));have bF:Arr (ah.setCell ⟨o,2,none⟩ (.slice a6 (k+1) a7)) o 100 (mbL r T (k+1) U a6 (k+1) a7 1):=A.set 2 _;have H:=Aj ah o 2 (.slice a6 (k+1) a7);have bB:=J.kept H (Cw J A (by decide));have bD:=Own.kept aj H (AK aj A (by decide))
       have bH:=aU.kept H (fun e=>aC (fD e).symm);have bG:=aN.grown H (fun g hg=>by have h1:=fD hg;omega);clear C O bT aX aj G bL A bE bN aN aU J H aQ aR;go_roundw
       case rel =>
        refine⟨k+1,by go_num,by omega,T,U,a6,a7,bF,bH,?_,?_,bG⟩
        · rw[b7.out,fY];show AE _ _ _ _ _ _ _ (_ ++ [F4 t]);rw[<-ap.out];exact bB
        · rw[b7.out,fY];show Own _ _ _ _ _ _ (_ ++ [LH t]);unfold LH;rw[<-bR.out];exact bD
       case measure=>simp[intOf];omega
  · have bY:k=n:=by omega
    have aB:=b6.out;have ht:l.take k=l:=f9 (by omega);rw[ht]at hM a2 ac;subst bY;go_wp2;go_ret;refine⟨o,rfl,hE,bW,r,ae,ce,am,cm,?_,hM,?_,?_,bf⟩
    · rw[aB];exact hB
    · rw[aB];exact a2
    · rw[aB];exact ac
abbrev pz:Int×List Tx:=(0,[])
def PSl(w:World)(a:Option Addr)(n c:Nat)(ps:List (Int×List Tx)):Prop:=∃ rows,SlK w 2 a n c rows/\ps.length=n/\∀ i,i<n->∃ A m d,rows.getD i []=AF (ps.getD i pz).1 A m d/\CP w A m d (ps.getD i pz).2
theorem Vf{g:Nat}{r:List Value}(h:Arr w g t (r ++ s))(a:r.length=k)(b:s.length=k):SlK w k (some ⟨g,0,none⟩) 2 2 [r,s]:=by
 refine⟨rfl,lrf _,by unfold maxLen;omega,by simp[a,b],fun _=>⟨g,0,rfl,fun i c j d => ?_⟩⟩;have h01:i=0\/i=1:=by omega
 rcases h01 with rfl|rfl
 · rw[iE,fZ,h.cell (by simp;omega)];show _=some (r.getD j undef);rw[gqq,fj (by omega),<-gqq]
 · rw[k8,fZ,h.cell (by simp;omega)];show _=some (s.getD j undef);rw[gqq,gd (by omega),a,show k+j-k=j by omega,<-gqq]
theorem PSl.two{g:Nat}{b:Option Addr}{m d:Nat}{e f:List Tx}(h:Arr w g 24 (AF va a n c ++ AF vb b m d))(j:CP w a n c e)(k:CP w b m d f):PSl w (some ⟨g,0,none⟩) 2 2 [(va,e),(vb,f)]:=by
 refine⟨_,Vf h rfl rfl,rfl,fun i l => ?_⟩;have h01:i=0\/i=1:=by omega
 rcases h01 with rfl|rfl
 · exact⟨a,n,c,rfl,j⟩
 · exact⟨b,m,d,rfl,k⟩
section
variable {P:Program} {w:World}
theorem RG{r0 r1 d s1:Value}(k:P.underlying t=some (.slice e))(a:Cq P e zs 2 bytes) :
 (Instr.buildSlice t 2 #[(0,.agg #[r0,r1]),(1,.agg #[d,s1])]).run P w = .ok (.slice (some ⟨w.heap.size,0,none⟩) 2 2) (w.alloc (.cells #[r0,r1,d,s1] e)):=by
 obtain⟨i,g,c,b,f⟩:=a.parts;have j:=a.2.1
 match zs,j,c with
 | [z0,z1],_,c =>
 simp[Instr.buildSlice,fT k,sizeOf,typeInfo,g,b,Instr.fill,zeroValue,c,newRow,Value.cells,show Array.range 4=#[0,1,2,3] by decide]
theorem TK{x:Operand}(b:o.guard=none)(g:o.op = .buildSlice t 2 #[(0,x),(1,y)])
 {r0 r1 c s1:Value} {e:TypeId} {zs:List Value} {bytes:Nat} (i:P.underlying t=some (.slice e)) (a:Cq P e zs 2 bytes) (j:f.eval x = .agg #[r0,r1]) (k:f.eval y = .agg #[c,s1])
 (h:wpList P ops Q rest (f.put o.dst (.slice (some ⟨w.heap.size,0,none⟩) 2 2)) (w.alloc (.cells #[r0,r1,c,s1] e))):wpList P ops Q (o :: rest) f w:=by
 refine gI b fun _ d => ?_;unfold Oper.wp execOp;simp only[g,iP,gD,iF,j,k,fC,RG i a,fe,fQ];exact d _ _ h
end
theorem CY:Cq prog 24 [.int .i64 0,.slice none 0 0] 2 32:=⟨by kernel_rfl,rfl,by omega⟩
theorem Oa:A9 prog 95 (.pointer none) 8:=by unfold A9;kernel_rfl
theorem Km{g:Nat}(h:Arr w g t cs)(a:Arr w g t' cs'):t=t':=by
 have h1:w.heap[g]?=_:=h;have h2:w.heap[g]?=_:=a;rw[h1]at h2;injection h2 with h3;injection h3 with _ h4
theorem WF(b:w.grownBy w' row)(hp:w.cell? p=some v)(a:some p.block≠row):w'.cell? p=some v:=by
 rw[il (b.block _ (gT w p hp) a),hp]
theorem Ob{g:Nat}{m:List (Int×Value)}(h:Arr w g t cs)(a:Bf w r m):g≠r:=fun e=>by
 subst e;have h1:w.heap[g]?=_:=h;rw[a.obj]at h1;cases h1
structure Fu(w:World)(base fB:Nat)(M:FMs)(ps:List Nat)(a:Option Addr)(n c:Nat)(mem:List Value)(rB:Nat)(fm:List (Int×Value))(F:Int->List Value):Prop where
 fga:Arr w fB 93 [.slice a n c,.map (some rB)]
 fgr:base<=rB/\rB<fB
 fgo:Own w base 95 a n c mem
 fgm:PMp w base rB 95 fm F
 fgd:∀ p∈fm,∀ g,F5 p.2=some g->some g≠blk a
 fgp:∀ i,i<M.length->MbA w (fB+1) (ps.getD i 0) (M.getD i fz).1 (M.getD i fz).2
section
variable {w:World} {base fB:Nat} {M:FMs} {ps:List Nat} {a:Option Addr} {n c:Nat} {mem:List Value} {rB:Nat} {fm:List (Int×Value)} {F:Int->List Value}
theorem Ft.g(h:Ft w base fB N M ps a c rB fm):Fu w base fB M ps a M.length c (ps.map pvM) rB fm fun h=>(grpI N M h).map fun i=>pvM (ps.getD i 0) :=
 ⟨h.fwa,h.fwr,h.fwo,h.fwm,h.fwd,h.fwp⟩
theorem Fu.ext{b:World}(h:Fu w base fB M ps a n c mem rB fm F)(e:Ext w b):Fu b base fB M ps a n c mem rB fm F :=
 ⟨h.fga.ext e,h.fgr,h.fgo.ext e,h.fgm.ext e,h.fgd,fun i d=>(h.fgp i d).ext e⟩
theorem Fu.mb_ne{l:PLs}(h:Fu w base fB M ps a n c mem rB fm F)(b:MbA w (fB+1) B l k):B≠fB:=fun e=>by
 obtain⟨r,d,g,f,i,h1,_⟩:=b;subst e;exact absurd (Km h1 h.fga) (by decide)
theorem Fu.bump{x:PLs}(h:Fu w base fB M ps a n c mem rB fm F)(s:ps.length=M.length)(g:ps.Nodup)(hi:i<M.length)(t:(M.getD i fz).1=x)(hu:u = .int .i64 (k:Nat)) :
 Fu (w.setCell ⟨ps.getD i 0,3,none⟩ u) base fB (M.set i (x,k)) ps a n c mem rB fm F:=by
 subst hu;obtain⟨r,m,p,o,q,h1,h2⟩:=h.fgp i hi;have b:=Aj w (ps.getD i 0) 3 (.int .i64 (k:Nat));have l:ps.getD i 0≠fB:=h.mb_ne (h.fgp i hi);refine⟨h.fga.kept b (fun e=>l (fD e).symm),h.fgr,h.fgo.kept b (AK h.fgo h1 (by decide)),h.fgm.kept h1 (by decide) b,h.fgd,fun j f => ?_⟩;rw[iC]at f;by_cases d:j=i
 · subst d;have e:(M.set j (x,k)).getD j fz=(x,k):=by simp[f]
   rw[e];rw[t]at h1 h2;refine⟨r,m,p,o,q,h1.set 3 _,h2.mpm.kept b (fun e=>EF h1 h2.mpm (fD e).symm),h2.mpk.kept b (Cw h2.mpk h1 (by decide)),h2.mpn.kept b (AK h2.mpn h1 (by decide)),h2.mpr⟩
 · have e:(M.set i (x,k)).getD j fz=M.getD j fz:=by simp[jx (Ne.symm d)]
   rw[e];refine(h.fgp j f).kept h1 (by decide) (by decide) (fun e=>d ?_) b;have h3:ps[j]'(by omega)=ps[i]'(by omega):=by simpa[show j<ps.length by omega,show i<ps.length by omega]using e
   exact(List.getElem_inj g).1 h3
theorem Fu.app{x:PLs}(h:Fu w base fB M ps a n c mem rB fm F)(t:ps.length=M.length)(L:MbA w (fB+1) B x k)(H:Own w1 base 95 a' (n+1) c' (mem ++ [v]))(j:w.grownBy w1 (blk a))(o:blk a'=blk a\/∃ g,blk a'=some g/\w.heap.size<=g)(hu:u = .slice a' (n+1) c') :
 Fu (w1.setCell ⟨fB,0,none⟩ u) base fB (M ++ [(x,k)]) (ps ++ [B]) a' (n+1) c' (mem ++ [v]) rB fm F:=by
 subst hu;have hA1:Arr w1 fB 93 [.slice a n c,.map (some rB)]:=h.fga.kept j (CK h.fgo h.fga (by decide));have d:=Aj w1 fB 0 (.slice a' (n+1) c');have D:PMp w1 base rB 95 fm F:=h.fgm.keptO h.fgd (fun e=>Dp h.fgo h.fgm.pmi e.symm) j
 have q:∀ {l:Nat} {A:PLs} {z:Nat},MbA w (fB+1) l A z->MbA (w1.setCell ⟨fB,0,none⟩ (.slice a' (n+1) c')) (fB+1) l A z:=fun {l A z} y=>by
  have G:MbA w1 (fB+1) l A z:=by
   cases b:blk a with
   | none=>rw[b]at j;exact y.ext (Hu j)
   | some g =>
    rw[b]at j;obtain⟨K,U,I⟩:=EG h.fgo b;refine y.kept I (by decide) (by decide) (fun e => ?_) j;obtain⟨r,P,S,Q,T,h1,_⟩:=y;subst e;have h2:w.heap[l]?=_:=h1;rw[I]at h2;injection h2 with h3;injection h3 with _ h4;exact absurd h4 (by decide)
  refine G.kept hA1 (by decide) (by decide) (fun e => ?_) d;exact h.mb_ne y e
 refine⟨hA1.set 0 _,h.fgr,H.kept d (AK H hA1 (by decide)),D.kept hA1 (by decide) d,fun p hp g s => ?_,fun i O => ?_⟩
 · rcases o with o|⟨V,o,N⟩
   · rw[o];exact h.fgd p hp g s
   · rw[o];intro e;obtain⟨J,W,R,m,_,E⟩:=h.fgm.pme p hp;have h3:F5 p.2=blk J:=by rw[m];rfl
     have h4:=(E.lt (h3 ▸ s)).2;have h5:=fD e;omega
 · rw[fo,List.length_singleton]at O;by_cases f:i<M.length
   · have C:(M ++ [(x,k)]).getD i fz=M.getD i fz:=by simp[fj,f]
     have m:(ps ++ [B]).getD i 0=ps.getD i 0:=by simp[fj,t,f]
     rw[C,m];exact q (h.fgp i f)
   · have:i=M.length:=by omega
     subst this;have C:(M ++ [(x,k)]).getD M.length fz=(x,k):=by simp
     have m:(ps ++ [B]).getD M.length 0=B:=by simp[<-t]
     rw[C,m];exact q L
theorem Fu.put{k:Int}(h:Fu w base fB M ps a n c mem rB fm F)
 (K:∀ p∈fm,p.1≠k->∀ g,F5 p.2=some g->some g≠blk ag) (G:∀ g,blk ag=some g->∃ p∈fm,F5 p.2=some g) (E:∀ g,blk ag=some g->∃ m y,w.heap[g]?=some (Obj.cells m 95 y))
 (J:Own w1 base 95 ag' (ng+1) cg' (F k ++ [v])) (o:w.grownBy w1 (blk ag)) (q:blk ag'=blk ag\/∃ g,blk ag'=some g/\w.heap.size<=g) (I:Bf w2 rB (D1 fm k (.slice ag' (ng+1) cg'))) (f:Bf w1 rB fm) (j:w1.grownBy w2 (some rB)) :
 Fu w2 base fB M ps a n c mem rB (D1 fm k (.slice ag' (ng+1) cg')) fun e=>if e=k then F k ++ [v]else F e:=by
 have B:∀ {t:TypeId} {D:List Value} {g:Nat},Arr w g t D->95≠t->some g≠blk ag:=fun {t D g} H C e=>by
  obtain⟨m,y,x⟩:=E g e.symm;have h1:w.heap[g]?=_:=H;rw[x]at h1;injection h1 with h2;injection h2 with _ h3;exact C h3
 have hA1:=h.fga.kept o (B h.fga (by decide))
 have s:Own w1 base 95 a n c mem:=h.fgo.kept o (by
  cases b:blk a with
  | none=>exact .inl rfl
  | some g =>
   refine .inr fun e => ?_;obtain⟨p,hp,l⟩:=G g e.symm
   exact h.fgd p hp g l b.symm)
 refine⟨hA1.kept j (fun e=>Ob hA1 f (fD e)),h.fgr,s.kept j ?_,h.fgm.step K J o q I f j,fun p hp g l => ?_,fun i N => ?_⟩
 · cases b:blk a with
   | none=>exact .inl rfl
   | some g=>exact .inr (fun e=>Dp s f (by rw[b,e]))
 · rcases LJ h.fgm.pmi.nodup hp with rfl|⟨hp,_⟩
   · have d:blk ag'=some g:=l;rcases q with q|⟨S,q,L⟩
     · rw[q]at d;obtain⟨p,hp,h1⟩:=G g d;exact h.fgd p hp g h1
     · intro e;have h1:=(h.fgo.lt e.symm).2;rw[q]at d;have:=fD d;omega
   · exact h.fgd p hp g l
 · have z:=h.fgp i N;have A:MbA w1 (fB+1) (ps.getD i 0) (M.getD i fz).1 (M.getD i fz).2:=by
    cases b:blk ag with
    | none=>rw[b]at o;exact z.ext (Hu o)
    | some g =>
     rw[b]at o;obtain⟨m,y,x⟩:=E g b;refine z.kept x (by decide) (by decide) (fun e => ?_) o;obtain⟨r,O,Q,P,R,h1,_⟩:=z;rw[e]at h1;have h2:w.heap[g]?=_:=h1;rw[x]at h2;injection h2 with h3;injection h3 with _ h4;exact absurd h4 (by decide)
   exact A.keptMap f.obj (by have:=h.fgr;omega) j
end
theorem TL{M:FMs}{x:PLs}(h:Int):grpI N (M ++ [(x,k)]) h=if h=fpI (idn N) x then grpI N M h ++ [M.length]else grpI N M h:=by
 unfold grpI;rw[fo,List.length_singleton,List.range_succ,List.filter_append];have c:(List.range M.length).filter (fun i=>decide (fpI (idn N) ((M ++ [(x,k)]).getD i fz).1=h))=(List.range M.length).filter (fun i=>decide (fpI (idn N) (M.getD i fz).1=h)):=by
  refine List.filter_congr fun i d => ?_;have:(M ++ [(x,k)]).getD i fz=M.getD i fz:=by simp[fj,gO.1 d]
  rw[this]
 rw[c];have b:(M ++ [(x,k)]).getD M.length fz=(x,k):=by simp
 by_cases a:h=fpI (idn N) x
 · rw[fG a];have:[M.length].filter (fun i=>decide (fpI (idn N) ((M ++ [(x,k)]).getD i fz).1=h))=[M.length]:=by
    rw[List.filter_cons,b,fG (gn a.symm)];rfl
   rw[this]
 · rw[fl a];have:[M.length].filter (fun i=>decide (fpI (idn N) ((M ++ [(x,k)]).getD i fz).1=h))=[]:=by
    rw[List.filter_cons,b,fl (by simpa using fun e:fpI (idn N) x=h=>a e.symm)];rfl
   rw[this,iO]
theorem TM{M:FMs}{x:PLs}(c:(M.getD i fz).1=x)(h:Int):grpI N (M.set i (x,k)) h=grpI N M h:=by
 unfold grpI;rw[iC];refine List.filter_congr fun j b => ?_;have b:=gO.1 b;have:((M.set i (x,k)).getD j fz).1=(M.getD j fz).1:=by
  by_cases a:i=j
  · subst a;rw[c];simp[b]
  · simp[jx a]
 rw[this]
theorem Ft.of{M:FMs}{e:List (Int×Value)}{F:Int->List Value}(h:Fu w base fB M ps a n c mem rB e F)(k:n=M.length)(j:mem=ps.map pvM)(hF:∀ h,F h=(grpI N M h).map fun i=>pvM (ps.getD i 0))(g:ps.length=M.length)(d:ps.Nodup)(b:∀ i,i<M.length->fB<ps.getD i 0)(f:∀ i,i<M.length->Pl.Canon N (M.getD i fz).1/\(M.getD i fz).1.length<=4096/\(M.getD i fz).2<=1000):Ft w base fB N M ps a c rB e:=by
 subst k j;exact⟨g,d,h.fga,h.fgr,h.fgo,h.fgm.congr hF,h.fgd,h.fgp,b,f⟩
theorem MG{x:Int}(r:SlI w a n c xs)(E:n<=1000000) :
 Calls prog 74 #[.slice a n c,.int .i64 x] w fun e A=>∃ k:Int,e = .returned (.int .i64 k)/\Ext w A/\Hid (0<=k<->x∈xs):=by
 have q:=f8 r.len
 go_enter func74,ntmps74
 go_wp2
 go_loopw[8] (fun p wr=>∃ k:Nat,p = .int .i64 k/\k<=n/\Ext w wr/\Hid (∀ i,i<k->xs.getD i 0≠x)) (fun p _=>n-(intOf p).toNat)
 case atStart=>exact⟨0,rfl,fu _,Ext.refl _,f8 (fun i j=>absurd j (by omega))⟩
 case round =>
  obtain⟨k,rfl,D,g,f⟩:=hrel;by_cases d:k<n
  · obtain⟨b,o,rfl,l⟩:=(r.ext g).at d;have C:=l k d;have t:Hid (xs.getD k 0∈xs):=f8 (by have:=q.out;simp[show k<xs.length by omega]);by_cases m:x=xs.getD k 0
    · have B:=f8 m;clear l;generalize xs.getD k 0=y at *
      subst m;go_wp2;go_ret;exact⟨k,rfl,g,f8 ⟨fun _=>t.out,fun _=>lu _⟩⟩
    · have v:Hid (∀ i,i<k+1->xs.getD i 0≠x):=f8 fun i j=>by
       by_cases h:i<k
       · exact f.out i h
       · have:i=k:=by omega
         subst this;exact fun e=>m e.symm
      clear l f;generalize xs.getD k 0=y at *
      go_wp2;go_roundw
      case rel=>exact⟨k+1,by go_num,by omega,g,v⟩
      case measure=>simp[intOf];omega
  · have s:Hid (x ∉ xs):=f8 fun z=>by
     obtain⟨i,j,e⟩:=gK z;have h1:=f.out i (by have:=q.out;omega);simp[j,e]at h1
    clear f;go_wp2;go_ret;exact⟨-1,rfl,g,f8 ⟨fun h=>by omega,fun h=>absurd h s.out⟩⟩
theorem E5{x:Int}(j:SlI w a n c xs)(i:n<=1000000) :
 Calls prog 48 #[.slice a n c,.int .i64 x] w fun e l=>e = .returned (.bool (decide (x∈xs)))/\Ext w l:=by
 obtain⟨r,b⟩:∃ r,decide (x∈xs)=r:=⟨_,rfl⟩;rw[b];have f:=f8 b;clear b
 go_enter func48,ntmps48
 go_wp2_with fail
 refine(MG j i).mono ?_;rintro e m ⟨k,rfl,g,d⟩;go_wp2;go_ret;refine⟨Gm ?_,g⟩;rw[<-f.out];exact jJ.2 d.out.symm
structure KI(w w':World):Prop where
 size:w.heap.size<=w'.heap.size
 blk:∀ (g:Nat) (cs:Array Value) (fr:Nat×Nat),w.heap[g]?=some (Obj.cells cs 3 fr)->w'.heap[g]?=w.heap[g]?
theorem KI.refl(w:World):KI w w:=⟨lrf _,fun _ _ _ _=>rfl⟩
theorem KI.trans{a b c:World}(h:KI a b)(k:KI b c):KI a c :=
 ⟨ft h.size k.size,fun g d f e=>by rw[k.blk g d f (by rw[h.blk g d f e,e]),h.blk g d f e]⟩
theorem Oc{g:Nat}{o:Obj}(e:w.heap[g]?=some o):g<w.heap.size:=by
 rcases fS g w.heap.size with h|h
 · exact h
 · rw[gQ h]at e;cases e
theorem Ext.ki(h:Ext w w'):KI w w':=⟨h.size,fun _ _ _ e=>h.block (Oc e)⟩
theorem KI.grown(d:w.grownBy w' row)(c:∀ g,row=some g->∀ a b,w.heap[g]?≠some (Obj.cells a 3 b)):KI w w' :=
 ⟨d.size,fun g a b e=>d.block g (Oc e) (fun h=>c g h.symm a b e)⟩
theorem KI.drewN{w a:World}(h:KI w a)(k:Nat):KI w (a.drewN k):=⟨h.size,h.blk⟩
theorem BF.ki(h:BF w base a n c xs)(k:KI w w'):BF w' base a n c xs:=by
 obtain⟨h1,h2⟩:=h;refine⟨h1,?_⟩;rcases h2 with h2|⟨g,b,d,i,f,e,r⟩
 · exact Or.inl h2
 · exact Or.inr ⟨g,b,d,i,f,by rw[k.blk g _ _ e,e],r⟩
theorem BF.nilc(h:BF w base a n c xs)(e:a=none):c=0:=by
 obtain⟨h1,h2⟩:=h;rcases h2 with⟨b,_⟩|⟨g,d,f,b,_⟩
 · simp only[fd]at b;exact b.2.2
 · simp only[fd]at b;rw[e]at b;exact absurd b.1 (by simp)
theorem TN(a:j<n)(h:(j:Int)∈pre):((idn n).take (j+1)).flatMap (fun x=>if x∈pre then []else prm n k (pre ++ [x]))=((idn n).take j).flatMap (fun x=>if x∈pre then []else prm n k (pre ++ [x])):=by
 rw[ff (by rw[AY];exact a),List.flatMap_append];have:(idn n)[j]'(by rw[AY];exact a)=(j:Int):=by simp[idn]
 rw[this];simp[h]
theorem TO(a:j<n)(h:(j:Int) ∉ pre):((idn n).take (j+1)).flatMap (fun x=>if x∈pre then []else prm n k (pre ++ [x]))=((idn n).take j).flatMap (fun x=>if x∈pre then []else prm n k (pre ++ [x])) ++ prm n k (pre ++ [(j:Int)]):=by
 rw[ff (by rw[AY];exact a),List.flatMap_append];have:(idn n)[j]'(by rw[AY];exact a)=(j:Int):=by simp[idn]
 rw[this];simp[h]
def X0(a b c d:Nat):Array Value:=#[.pointer (some ⟨a,0,none⟩),.pointer (some ⟨b,0,none⟩),.pointer (some ⟨c,0,none⟩),.pointer (some ⟨d,0,none⟩)]
theorem Gx{kB gB nB:Nat}{Inv:List (List Int)->World->Prop}(hn:n<=6)(P:∀ V w l,Inv V w->Ext w l->Inv V l)
 (t:∀ V w b a c xs,Inv V w->BF w b a n c xs->Af xs=true->Calls prog 23 #[.slice a n c,.pointer (some ⟨kB,0,none⟩),.pointer (some ⟨fB,0,none⟩),.pointer (some ⟨gB,0,none⟩),.pointer (some ⟨nB,0,none⟩)] w fun e l=>e = .returned (.tuple #[])/\Inv (V ++ [xs]) l/\KI w l) :
 ∀ (k:Nat) (pre:List Int) (V:List (List Int)) (b:Nat) (a:Option Addr) (m c:Nat) (w:World),m+k=n->pre.Nodup->(∀ x∈pre,0<=x/\x<n)->Inv V w->BF w b a m c pre ->
  Calls prog 22 #[.int .i64 n,.slice a m c,.func (.func 23) #[] (X0 kB fB gB nB)] w fun e l=>e = .returned (.tuple #[])/\Inv (V ++ prm n k pre) l/\KI w l:=by
 intro k
 induction k with
 | zero =>
  intro pre V b a m c w J B G S z;have D:=z.sl.len;have F:m=n:=by omega
  subst F;have hp:Af pre=true:=gn ⟨by omega,fun x Y=>by rw[D];exact G x Y,B⟩;have y:=f8 (t V w b a c pre S z hp);clear D G B t P hp J
  go_enter func22,ntmps22
  go_wp2_with fail
  refine y.out.mono ?_;rintro e H ⟨rfl,h1,h2⟩;go_wp2
  (first | go_end0 | (simp only[Exit.inBlock,Exit.then];refine fh (results_none rfl _ _ _) rfl ?_) | refine fh (results_none rfl _ _ _) rfl ?_)
  exact⟨rfl,h1,h2⟩
 | succ k ih =>
  intro pre V b a m c w J B G S z;have D:=z.sl.len;have HL:=f8 D;have F:m<n:=by omega
  have a1:((m:Int) == (n:Int))=false:=by simp;omega
  have HM:=f8 J;have HR:=f8 G;have HD:=f8 B;have L:=f8 P;have a0:=f8 t;have IH:=f8 ih;clear D J G B P t ih
  go_enter func22,ntmps22
  go_wp2
  go_loopw[15] (fun Z wr=>∃ j:Nat,Z = .int .i64 j/\j<=n/\KI w wr/\Hid (Inv (V ++ ((idn n).take j).flatMap (fun x=>if x∈pre then []else prm n k (pre ++ [x]))) wr)) (fun Z _=>n-(intOf Z).toNat)
  case atStart=>exact⟨0,rfl,fu _,KI.refl _,f8 (by simpa using S)⟩
  case round =>
   obtain⟨j,rfl,hj,I,y⟩:=hrel;have s:=z.ki I;by_cases E:j<n
   · by_cases d:(j:Int)∈pre
     · have K:=f8 (TN (k:=k) E d);have o:=f8 (gn d);clear d
       go_wp2_with fail
       refine(E5 (x:=(j:Int)) s.sl (by omega)).mono ?_;rintro e H ⟨rfl,f⟩;rw[o.out];go_wp2;go_roundw
       case rel=>exact⟨j+1,by go_num,by omega,I.trans f.ki,f8 (by rw[K.out];exact L.out _ _ _ y.out f)⟩
       case measure=>simp[intOf];omega
     · have K:=f8 (TO (k:=k) E d);have o:=f8 (fK d);have M:Hid ((pre ++ [(j:Int)]).Nodup):=f8 (by rw[iq];exact⟨HD.out,by simp,fun u hu v t e=>d (by rw[fi.1 t]at e;rw[<-e];exact hu)⟩)
       have N:Hid (∀ x∈pre ++ [(j:Int)],0<=x/\x<n):=f8 fun x Y=>by
        rcases fL.1 Y with h|h
        · exact HR.out x h
        · rw[fi.1 h];omega
       clear d
       go_wp2_with fail
       refine(E5 (x:=(j:Int)) s.sl (by omega)).mono ?_;rintro e H ⟨rfl,f⟩;rw[o.out];have q:=s.ext f
       go_wp2_with fail
       refine(EN q.sl (by omega) q.nilc).mono ?_;rintro e w2 ⟨a2,n2,c2,rfl,g,r⟩;have W:n2=m:=by have h1:=r.sl.len;have h2:=HL.out;omega
       subst W;have hL:=(Au w2 H.heap.size 3 #[.int .i64 (j:Int)] 1 rfl g.size (by omega)).sl;have O:=Own.alloc r (.cells #[.int .i64 (j:Int)] 3);have X:=g.size
       go_wp2_with(refine BS rfl rfl underlying35 BG rfl rfl O rfl hL (by simp[Value.oneCell']) (by unfold maxLen;omega) (by omega) (by simp;omega) ?_;intro a3 c3 w3 A C T)
       have p:Ext H w3:=(g.alloc _).grown C (fun k hk=>(O.lt hk).1);have i:BF w3 H.heap.size a3 (n2+1) c3 (pre ++ [(j:Int)]):=by
        unfold BF;rw[fY];exact A
       have HC:=f8 (IH.out _ _ _ _ _ _ _ (by have:=HM.out;omega) M.out N.out (L.out _ _ _ (L.out _ _ _ y.out f) p) i);have Q:KI wr w3:=f.ki.trans p.ki;clear A i C T O hL r q g p X
       go_wp2_with fail
       refine HC.out.mono ?_;rintro e w4 ⟨rfl,h1,h2⟩;have H1:=f8 h1;have R:=(I.trans Q).trans h2;clear h1 HC;go_wp2;go_roundw
       case rel=>exact⟨j+1,by go_num,by omega,R,f8 (by rw[K.out,<-ge];exact H1.out)⟩
       case measure=>simp[intOf];omega
   · have U:j=n:=by omega
     have HF:Hid (V ++ ((idn n).take j).flatMap (fun x=>if x∈pre then []else prm n k (pre ++ [x]))=V ++ prm n (k+1) pre):=f8 (by
      rw[f9 (by rw[AY];omega)]
      rfl)
     clear U;go_wp2
     (first | go_end0 | (simp only[Exit.inBlock,Exit.then];refine fh (results_none rfl _ _ _) rfl ?_) | refine fh (results_none rfl _ _ _) rfl ?_)
     exact⟨rfl,by rw[<-HF.out];exact y.out,I⟩
def TP(W:World)(v:Value)(w:World)(u:Value):Prop:=∃ g,W.heap.size<=g/\v = .slice (some ⟨g,0,none⟩) 1 1/\Arr w g 95 [u]
theorem TP.x(W:World)(u:Value):∀ (v:Value) (w a:World),Ext w a->TP W v w u->TP W v a u:=fun _ _ _ e ⟨g,h0,h1,h2⟩=>⟨g,h0,h1,h2.ext e⟩
def TQ(W:World)(base:Nat)(a:Option Addr)(n:Nat)(G:List Value)(u v:Value)(w:World):Prop:=∃ a' c',v = .slice a' (n+1) c'/\Own w base 95 a' (n+1) c' (G ++ [u])/\(blk a'=blk a\/∃ g,blk a'=some g/\W.heap.size<=g)
theorem TQ.x(W:World)(base:Nat)(a:Option Addr)(n:Nat)(G:List Value)(u:Value):∀ (v:Value) (w b:World),Ext w b->TQ W base a n G u v w->TQ W base a n G u v b:=fun _ _ _ e ⟨c,d,h1,h2,h3⟩=>⟨c,d,h1,h2.ext e,h3⟩
theorem TR{xs:List Value} 
 (L:P.underlying t=some (.slice e)) (o:A9 P e z bytes) (N:z.cells.size=1) (d:Own w base e a n c xs) (O:Arr w g0 e [u]) (h1:u.oneCell'=true) (h63:n+1<=maxLen) (l:(n+1)*bytes<=140737488355328) (s:base<=w.heap.size) :
 ∃ r C B,(Builtin.append_ #[t,t] ty #[.slice a n c,.slice (some ⟨g0,0,none⟩) 1 1]).run P w = .ok (.slice r (n+1) C) B/\Own B base e r (n+1) C (xs ++ [u])/\w.grownBy B (blk a)/\(blk r=blk a\/blk r=some w.heap.size)/\Own B base e a n c xs:=by
 obtain⟨r,C,B,f,h2,h3,h4⟩:=Mf (P:=P) (ty:=ty) L o N d (O.sl (k:=1) (by simp) (by unfold maxLen;simp)) (by simpa using h1) h63 l s;refine⟨r,C,B,f,h2,h3,h4,?_⟩;replace f:(Builtin.append_ #[t,t] ty #[.slice a n c,.slice (some ⟨g0,0,none⟩) 1 1]).run P w = .ok (.slice r (n+1) C) B:=f;obtain⟨i,R,U,b,I⟩:=jT o
 have p:∀ j v,[u][j]?=some v->w.cell? ((⟨g0,0,none⟩:Addr).add j)=some v:=fun j v E=>by
  match j,E with
  | 0,E=>cases E;exact O.cell (i:=0) (by simp)
  | j+1,E=>simp at E
 rcases d.2 with⟨G,h0⟩|⟨g,S,q,G,H,Q,K,J,D,A⟩
 · exact⟨d.1,.inl ⟨G,h0⟩⟩
 · have T:=G;simp only[fd]at G;obtain⟨rfl,_,rfl⟩:=G;by_cases y:n+1<=c
   · have m:n*i.size+[u].length<=q.size:=by rw[b,D];simp;omega
     have F:=run_append_room (P:=P) w t ty e i L R g n c q Q ⟨g0,0,none⟩ 1 1 [u] (by rw[b];simp) p (by simpa using h1) y m;rw[f]at F;injection F with _ M;rw[M];refine⟨d.1,.inr ⟨g,c,_,rfl,H,setRow_heap w g q _ e _ Q,K,J,?_,?_⟩⟩
     · simp only[List.size_toArray,fo,go,kE,Array.length_toList];rw[b]at m |-;simp at m |-;omega
     · have V:n*1<=q.size:=by rw[D];omega
       simp only[b,ge];rw[List.take_append_of_le_length (by simp;omega),lU,Nat.min_self];exact A
   · have x:∀ j v,xs[j]?=some v->w.cell? ((⟨g,0,none⟩:Addr).add j)=some v:=World.ownsRow.cells (g:=g) d rfl;have F:=run_append_grow (P:=P) w t ty e i z L R U ⟨g,0,none⟩ n c xs (by rw[b];exact d.1) x ⟨g0,0,none⟩ 1 1 [u] (by rw[b];simp) p (by omega) (by have h:=h63;unfold maxLen at h;omega) (growslice_fits (by have h:=h63;unfold maxLen at h;omega) (by rw[I];exact l));rw[f]at F;injection F with _ M;rw[M];exact(d.drew).alloc _
theorem Jo{qs:List (Int×List Tx)}{L:List PLs}(h:PSl w a n c qs)(hl:L.length=n)(hq:∀ i,i<n->(qs.getD i pz).2=(L.getD i []).map fun t=>(txt t.2,t.1))(hc:N5 N L)(hb:∀ x∈L,x.length<=100/\∀ t∈x,(txt t.2).length<=1000)(hN:N<=6)(hn:n<=100) :
 Calls prog 20 #[.int .i64 N,.slice a n c] w fun e w'=>∃ f M l am cm rB fm,e = .returned (.pointer (some ⟨f,0,none⟩))/\Ext w w'/\Ft w' w.heap.size f N M l am cm rB fm/\CU L M:=by
 obtain⟨bY,hS,bF,bs⟩:=h;have bM:=qh bs;have HL:=qh hl;have HQ:=qh hq;have HC:=qh hc;have HB:=qh hb;clear bs bF hl hq hc hb
 go_enter func20,ntmps20
 go_upto_region 2 with(refine RC rfl rfl ?_;intro w1 aG b8 av)
 refine Bv ?_;intro w2 az ao bV;obtain⟨rB,hr⟩:∃ r,w.heap.size=r:=⟨_,rfl⟩;obtain⟨f,hf⟩:∃ m,w1.heap.size=m:=⟨_,rfl⟩;rw[hr]at aG av;rw[hf]at ao av |-;have b7:Arr w2 f 93 [.slice none 0 0,.map (some rB)]:=by rw[<-hr];exact ao
 have be:=aG.ext az;have aQ:=b8.trans az;have b9:Ft w2 w.heap.size f N [] [] none 0 rB []:=⟨rfl,List.nodup_nil,b7,⟨by omega,av⟩,Own.nil _ _ _,PMp.new be (by omega),by simp,fun i q=>absurd q (by simp),fun i q=>absurd q (by simp),fun i q=>absurd q (by simp)⟩;clear ao b7 aG be b8 az bV hf
 go_wp2_with fail
 refine(Fd (by omega)).mono ?_;rintro e w3 ⟨ai,Z,ci,rfl,aA,bg⟩;have bU:Z=N:=by have:=bg.sl.len;rw[AY]at this;exact this.symm
 subst bU;have ba:=b9.ext aA;have bB:=aQ.trans aA;clear b9 aQ aA;go_wp2
 go_loopw[19] (fun iv wr=>∃ (k:Nat) (M:FMs) (l:List Nat) (am:Option Addr) (cm:Nat) (fm:List (Int×Value)),iv = .int .i64 k/\k<=n/\Ext w wr/\KI w3 wr/\Ft wr w.heap.size f Z M l am cm rB fm/\Hid (CU (L.take k) M/\(∀ i,i<M.length->(M.getD i fz).2<=k)/\M.length<=k)) (fun iv _=>n-(intOf iv).toNat)
 case atStart=>exact⟨0,[],[],none,0,[],rfl,fu _,bB,KI.refl _,ba,qh ⟨by rw[jc];exact CU.nil,fun i q=>absurd q (by simp),fu _⟩⟩
 case round =>
  clear ba;obtain⟨k,M,l,am,cm,fm,rfl,hk,hE,bd,hF,HI⟩:=hrel;have bc:=(BF.ki bg bd).sl;by_cases al:k<n
  case neg =>
   have HZ:Hid (CU L M):=qh (by
    have h1:=HI.out.1;rw[f9 (by rw[HL.out];omega)]at h1
    exact h1)
   go_wp2;go_ret;exact⟨f,M,l,am,cm,rB,fm,rfl,hE,hF,HZ.out⟩
  have aH:=hS.ext hE;obtain⟨bq,c4,rfl,bS⟩:=aH.rd (by omega);obtain⟨A,m,d,aw,af⟩:=bM.out k al;have hY:=Arr.new wr 24 (AF 0 none 0 0);have ak:k<L.length:=by rw[HL.out];exact al
  obtain⟨x,hx⟩:∃ x,L.getD k []=x:=⟨_,rfl⟩;have aN:x∈L:=by rw[<-hx];exact Ry ak
  have bt:L.take (k+1)=L.take k ++ [x]:=by
   rw[ff ak,<-hx];simp[ak]
  have aM:=HQ.out k al;rw[hx]at aM;obtain⟨va,bu⟩:∃ v,(qs.getD k pz).1=v:=⟨_,rfl⟩;rw[bu]at aw;rw[aM]at af;obtain⟨bh,bi⟩:=HB.out x aN;have bk:=HC.out x aN;have HX:=qh (And.intro bk (And.intro bh bi));have b6:=qh bt;have c2:m<=100:=by have h1:=af.len;rw[fq]at h1;omega
  clear bS hx aN bt aM bu ak bh bi bk
  go_upto_region 6 with(first
   | (refine Dz rfl rfl Ax rfl aH al ?_;rw[aw])
   | (refine Aa (vs:=AF va A m d) rfl rfl rfl rfl rfl Ax hY rfl (AW _ _ _ _) ?_;intro w5 aa bn))
  have W:Ext wr w5:=((Ext.refl wr).alloc _).grownR bn (lrf _);obtain⟨X,hX⟩:∃ x,wr.heap.size=x:=⟨_,rfl⟩;rw[hX]at aa |-;have y0:=aa.c 0 rfl;have y1:=aa.c 1 rfl;have aX:=af.ext (hE.trans W);have br:=qh (Jn (vars:=va) aX rfl HX.out.1 hN (by omega) (by intro t ht;obtain⟨u,hu,rfl⟩:=fy.1 ht;exact HX.out.2.2 u hu));have a3:=hF.ext W;have aR:=hE.trans W;have bb:=bc.ext W;clear hY bn aw aH hF af aX hX aa
  go_wp2_with fail
  refine br.out.mono ?_;rintro e w6 ⟨B,rfl,a2,bA,aV⟩;have aO:f+1<=w5.heap.size:=a3.fwa.lt;have J:=aV.mono aO;have aB:=a3.ext a2;have aS:=aR.trans a2;have aD:=bb.ext a2
  have b3:B ∉ l:=fun hm=>by
   obtain⟨i,q,e⟩:=gK hm;have h1:=(a3.fwp i (by have:=a3.fwl;omega)).lt;have h2:l.getD i 0=B:=by simp[q,e]
   omega
  have bD:=qh b3;have bJ:Hid (f<B):=qh (by omega);have bo:=qh (I3 aB J aD (CS hN) (AY Z) HX.out.1 (by have:=HX.out.2.1;omega));clear br a3 bb b3 aO bA aV y0 y1
  go_wp2_with fail
  refine bo.out.mono ?_;rintro e w7 ⟨o,rfl,Y,hO⟩;have b:=aB.ext Y;have ac:=J.ext Y;have aE:=aD.ext Y;have ap:=aS.trans Y;have aF:KI w3 w7:=bd.trans (((W.trans a2).trans Y).ki);clear bo aB J aD bc W a2 Y aR aS;cases o with
  | some i =>
   have q:i<M.length:=hO.1;have a7:(M.getD i fz).1=x:=((Rl.one hN HX.out.1).det hO.2 HX.out.1 (b.fwc i q).1).symm;obtain⟨cn,aj⟩:∃ c,(M.getD i fz).2=c:=⟨_,rfl⟩;have bZ:cn<=k:=by rw[<-aj];exact HI.out.2.1 i q
   obtain⟨r1,e1,d1,a1,b1,hA1,_⟩:=b.fwp i q;rw[aj]at hA1;obtain⟨pi,an⟩:∃ p,l.getD i 0=p:=⟨_,rfl⟩;have aI:=b.g.bump (u := .int .i64 ((cn:Int)+1)) (k:=cn+1) b.fwl b.fwn q a7 (by simp);rw[an]at hA1 aI;have u1:=hA1.c 3 rfl;have c0:=hA1.frozen 3;have bX:w.heap.size<=pi:=by rw[<-an];have h1:=b.fwb i q;have h2:=b.fwr;omega
   have a8:Hid (CU (L.take (k+1)) (M.set i (x,cn+1))/\(∀ j,j<(M.set i (x,cn+1)).length->((M.set i (x,cn+1)).getD j fz).2<=k+1)/\(M.set i (x,cn+1)).length<=k+1):=qh (by
    rw[b6.out];refine⟨by have h1:=HI.out.1.old q a7;rw[show(M.getD i ([],0)).2=cn from aj]at h1;exact h1,fun j S => ?_,by rw[iC];have:=HI.out.2.2;omega⟩;rw[iC]at S;by_cases a6:i=j
    · subst a6;simp[S];omega
    · have h1:=HI.out.2.1 j S;have e:(M.set i (x,cn+1)).getD j fz=M.getD j fz:=by simp[jx a6]
      rw[e];omega)
   have HW:=qh (Ft.of (N:=Z) aI (by rw[iC]) rfl (fun h=>by rw[TM a7]) (by rw[iC];exact b.fwl) b.fwn (fun j S=>b.fwb j (by rw[iC]at S;exact S)) (fun j S=>by
    have h2:=a8.out.2.1 j S;rw[iC]at S;have e:((M.set i (x,cn+1)).getD j fz).1=(M.getD j fz).1:=by
     by_cases a6:i=j
     · subst a6;rw[a7];simp[S]
     · simp[jx a6]
    rw[e]
    exact⟨(b.fwc j S).1,(b.fwc j S).2.1,by omega⟩))
   have aJ:=Aj w7 pi 3 (.int .i64 ((cn:Int)+1));have I:=ap.grown aJ (fun g s=>by have h1:=fD s;omega);have ab:=aF.trans (KI.grown aJ (fun g s cs fr e=>by have h1:=fD s;rw[<-h1]at e;have h2:w7.heap[pi]?=_:=hA1;rw[e]at h2;injection h2 with h3;injection h3 with _ h4;exact absurd h4 (by decide)));clear hO a7 aj hA1 aI b ac aE HI aJ;simp only[TI,pvM];rw[an];clear an;go_wp2;go_roundw
   case rel=>exact⟨k+1,_,l,am,cm,fm,by go_num,by omega,I,ab,HW.out,a8⟩
   case measure=>simp[intOf];omega
  | none =>
   have b2:x ∉ M.map (·.1):=fun hm=>by
    obtain⟨p,hp,he⟩:=fy.1 hm;obtain⟨i,q,rfl⟩:=gK hp;have e:(M.getD i fz).1=x:=by rw[<-he];simp[q]
    refine hO i q ?_;rw[e];exact Rl.one hN HX.out.1
   have a8:Hid (CU (L.take (k+1)) (M ++ [(x,1)])/\(∀ j,j<(M ++ [(x,1)]).length->((M ++ [(x,1)]).getD j fz).2<=k+1)/\(M ++ [(x,1)]).length<=k+1):=qh (by
    rw[b6.out];refine⟨HI.out.1.new b2,fun j S => ?_,by rw[fo,List.length_singleton];have:=HI.out.2.2;omega⟩;rw[fo,List.length_singleton]at S;by_cases bp:j<M.length
    · have e:(M ++ [(x,1)]).getD j fz=M.getD j fz:=by simp[fj,bp]
      rw[e];have:=HI.out.2.1 j bp;omega
    · have:j=M.length:=by omega
      subst this
      simp)
   have bQ:M.length<=100:=by have:=HI.out.2.2;omega
   have bw:=qh b.fwn;have V:=qh b.fwl;have b4:=qh (And.intro b.fwb b.fwc);have bm:=qh (D2 ac aE (CS hN) (AY Z) HX.out.1 (by have:=HX.out.2.1;omega));clear hO b2 HI;simp only[TI]
   go_wp2_with fail
   refine bm.out.mono ?_;rintro e w8 ⟨rfl,I⟩;have D:=b.g.ext I;have bf:=ac.ext I;have Q:=ap.trans I;have ab:=aF.trans I.ki;obtain⟨F,aC⟩:∃ F,(fun h=>(grpI Z M h).map fun i=>pvM (l.getD i 0))=F:=⟨_,rfl⟩;rw[aC]at D;have ax:Hid (∀ h,F h=(grpI Z M h).map fun i=>pvM (l.getD i 0)):=qh fun h=>by rw[<-aC]
   obtain⟨T,aK⟩:∃ h,fpI (idn Z) x=h:=⟨_,rfl⟩;rw[aK];have bL:=qh aK;obtain⟨ml,aL⟩:∃ m,M.length=m:=⟨_,rfl⟩;have b5:=qh aL;rw[aL]at D bQ;have hA:=Own.alloc D.fgo (.cells #[.pointer (some ⟨B,0,none⟩)] 95);have hL:=(Au w8 w.heap.size 95 #[.pointer (some ⟨B,0,none⟩)] 1 rfl Q.size (by omega)).sl;have K:Ext w8 (w8.alloc (.cells #[.pointer (some ⟨B,0,none⟩)] 95)):=(Ext.refl w8).alloc _;have f0:w8.cell? ⟨f,0,none⟩=some (.slice am ml cm):=D.fga.cell (i:=0) (by simp);have bI:=Q.size;clear b ac aE bm I aC aK aL ap aF
   go_upto_region 12 with(refine BS rfl rfl underlying91 Oa rfl rfl hA rfl hL (by simp[Value.oneCell']) (by unfold maxLen;omega) (by omega) (by simp;omega) ?_;intro z C a0 aW G aY;have hA11:=(D.fga.ext K).kept G (CK hA (D.fga.ext K) (by decide));have bz:a0.cell? ⟨f,0,none⟩=some (.slice am ml cm):=hA11.cell (i:=0) (by simp);have bv:=hA11.frozen 0)
   have y:=(D.ext K).app (u := .slice z (ml+1) C) V.out (bf.ext K) aW G (by rcases aY with h1 | h1;exact .inl h1;exact .inr ⟨_,h1,lrf _⟩) rfl;have au:=Aj a0 f 0 (.slice z (ml+1) C);have aq:Ext w (a0.setCell ⟨f,0,none⟩ (.slice z (ml+1) C)):=((Q.trans K).grown G (fun g s=>(hA.lt s).1)).grown au (fun g s=>by have h1:=fD s;have h2:=D.fgr;omega)
   have aT:KI w3 (a0.setCell ⟨f,0,none⟩ (.slice z (ml+1) C)):=((ab.trans K.ki).trans (KI.grown G (fun g s cs fr e=>by obtain⟨bN,bO,h1⟩:=EG hA s;rw[e]at h1;injection h1 with h3;injection h3 with _ h4;exact absurd h4 (by decide)))).trans (KI.grown au (fun g s cs fr e=>by have h1:=fD s;rw[<-h1]at e;have h2:a0.heap[f]?=_:=hA11;rw[e]at h2;injection h2 with h3;injection h3 with _ h4;exact absurd h4 (by decide)));clear D bf hA hL K f0 aW G aY hA11 bz bv au Q ab bI
   generalize a0.setCell ⟨f,0,none⟩ (.slice z (ml+1) C)=W0 at *
   have HG:=qh y;obtain⟨ag,ng,cg,aP,E,aZ,b0⟩:=y.fgm.look T;have a4:=y.fgm.pmi;have f1:W0.cell? ⟨f,1,none⟩=some (.map (some rB)):=y.fga.cell (i:=1) (by simp);have bl:some f≠blk ag:=CK E y.fga (by decide);have c3:ng<=100:=by
    have h1:=E.len;rw[ax.out,fq]at h1;have h2:(grpI Z M T).length<=(List.range M.length).length:=List.length_filter_le _ _;rw[List.length_range,b5.out]at h2;omega
   have bR:=aq.size
   have bK:Hid (∀ (O:World) (ay:List (Int×Value)),Fu O w.heap.size f (M ++ [(x,1)]) (l ++ [B]) z (ml+1) C (l.map pvM ++ [.pointer (some ⟨B,0,none⟩)]) rB ay (fun e=>if e=T then F T ++ [.pointer (some ⟨B,0,none⟩)]else F e)->Ft O w.heap.size f Z (M ++ [(x,1)]) (l ++ [B]) z C rB ay):=qh (by
    intro O ay hG;refine Ft.of hG (by rw[fo,List.length_singleton,b5.out]) (by rw[fY];rfl) (fun h => ?_) (by rw[fo,fo,V.out];rfl) ?_ (fun i q => ?_) (fun i q => ?_)
    · have bj:∀ h',(grpI Z M h').map (fun i=>pvM ((l ++ [B]).getD i 0))=(grpI Z M h').map fun i=>pvM (l.getD i 0):=fun h'=>by
       refine gZ fun i q => ?_;have h1:=gO.1 (ig.1 q).1;have h2:i<l.length:=by rw[V.out];exact h1
       simp[fj,h2]
      rw[TL,bL.out];by_cases hh:h=T
      · subst hh;rw[fG rfl,fG rfl,fY,bj,<-ax.out];have e:(l ++ [B]).getD M.length 0=B:=by rw[<-V.out];simp
        rw[gD,iF,e];rfl
      · rw[fl hh,fl hh,bj,ax.out]
    · rw[iq];exact⟨bw.out,by simp,fun u hu v T e=>bD.out (by rw[fi.1 T]at e;rw[<-e];exact hu)⟩
    · rw[fo,List.length_singleton]at q;by_cases a5:i<M.length
      · have h2:i<l.length:=by rw[V.out];exact a5
        have e:(l ++ [B]).getD i 0=l.getD i 0:=by simp[fj,h2]
        rw[e];exact b4.out.1 i a5
      · have:i=l.length:=by rw[V.out];omega
        subst this;have e:(l ++ [B]).getD l.length 0=B:=by simp
        rw[e];exact bJ.out
    · rw[fo,List.length_singleton]at q;by_cases a5:i<M.length
      · have e:(M ++ [(x,1)]).getD i fz=M.getD i fz:=by simp[fj,a5]
        rw[e];exact b4.out.2 i a5
      · have:i=M.length:=by omega
        subst this;have e:(M ++ [(x,1)]).getD M.length fz=(x,1):=by simp
        rw[e]
        exact⟨HX.out.1,by have:=HX.out.2.1;show x.length<=_;omega,by show 1<=1000;omega⟩)
   clear y
   refine CX (by kernel_rfl) (fun U=>W0.grownBy U (blk ag)/\Own U w.heap.size 95 ag ng cg (F T))
    [he (.pointer (some ⟨f,0,none⟩)),
 he (.pointer (some ⟨f,0,none⟩)),
 he (.pointer (some ⟨f,1,none⟩)),
 he (.map (some rB)),
 he (.int .u64 T),
 he (.pointer (some ⟨f,0,none⟩)),
 he (.pointer (some ⟨f,0,none⟩)),
 he (.pointer (some ⟨f,1,none⟩)),
 he (.map (some rB)),
 he (.int .u64 T),
 he (.slice ag ng cg),
 he (.pointer (some ⟨B,0,none⟩)),
 hu 13 (fun v U=>TP W0 v U (.pointer (some ⟨B,0,none⟩))),
 hmp (fun v U=>TQ W0 w.heap.size ag ng (F T) (.pointer (some ⟨B,0,none⟩)) v U)]
    (by kernel_rfl) (fun _ _ e h=>⟨IE h.1 e,h.2.ext e⟩) ⟨IE (DN W0 _) (Ext.refl W0).drew,E.ext (Ext.refl W0).drew⟩ ⟨trivial,trivial,trivial,trivial,trivial,trivial,trivial,trivial,trivial,trivial,trivial,trivial,TP.x _ _,TQ.x _ _ _ _ _ _,trivial⟩ ⟨?o0,?o1,?o2,?o3,?o4,?o5,?o6,?o7,?o8,?o9,?o10,?o11,?o12,?o13,trivial⟩ ?fin
   case o0 | o4 | o5 | o9 | o11=>exact omv
   case o1 | o6=>exact onc
   case o2 | o7=>exact ofa (d:=1)
   case o3 | o8=>exact olC rfl rfl (fun _ _=>id) (by kernel_rfl) (fun U H=>WF H.1 f1 bl)
   case o10=>exact XZ (k:=T) rfl rfl (fun _ _=>id) (fun _ _=>id) Kl underlying101 LL (fun U H=>a4.kept H.1 (fun e=>Dp E a4 e.symm)) aP
   case o12 =>
    refine Bj rfl ?_;intro ρ U hp H h;have bW:=hp.const;have e0:_=_:=h.1;exact⟨.slice (some ⟨U.heap.size,0,none⟩) 1 1,U.alloc (.cells #[.pointer (some ⟨B,0,none⟩)] 95),by go_simp,(Ext.refl _).alloc _,_,H.1.size,rfl,Arr.new _ _ _⟩
   case o13 =>
    refine P6 rfl ?_;intro ρ U hp H h;have e0:_=_:=h.1;obtain⟨v1,e1,g9,c1,rfl,bP⟩:=h.2.1;obtain⟨a9,c9,w9,bG,ae,bT,ah,bH⟩:=TR (P:=prog) (ty:=91) underlying91 Oa rfl H.2 bP rfl (by unfold maxLen;omega) (by omega) (ft bR H.1.size);refine⟨.slice a9 (ng+1) c9,w9,?_,⟨KG H.1 bT,bH⟩,Gp (by kernel_rfl),a9,c9,rfl,ae,?_⟩
    · simp only[execOp,resolve,invoke,builtin,fC,fQ,fe,iP,gD,iF,e0,e1,bG]
    · rcases ah with h1|h1
      · exact .inl h1
      · exact .inr ⟨_,h1,H.1.size⟩
   case fin =>
    intro U H;intro c5;rintro _ ⟨a9,c9,rfl,ae,ah⟩;change wpList _ _ _ _ _ _;simp only[CB];have ad:Bf U rB fm:=a4.kept H.1 (fun e=>Dp E a4 e.symm)
    go_wp2_with(refine Vc (k:=T) (v := .slice a9 (ng+1) c9) rfl (Or.inl rfl) Kl underlying101 rfl rfl rfl ad ?_;intro O aU R)
    have ar:=HG.out.put aZ b0 (fun g s=>EG E s) ae H.1 ah aU ad R;have bC:Ext w O:=(aq.grown H.1 (fun g s=>(E.lt s).1)).grown R (fun g s=>by have h1:=fD s;have h2:=ar.fgr;omega);have bx:Hid (Ft O w.heap.size f Z (M ++ [(x,1)]) (l ++ [B]) z C rB (D1 fm T (.slice a9 (ng+1) c9))):=qh (bK.out _ _ ar)
    have bE:KI w3 O:=(aT.trans (KI.grown H.1 (fun g s cs fr e=>by obtain⟨bN,bO,h1⟩:=EG E s;rw[e]at h1;injection h1 with h3;injection h3 with _ h4;exact absurd h4 (by decide)))).trans (KI.grown R (fun g s cs fr e=>by have h1:=fD s;rw[<-h1,ad.obj]at e;cases e));clear ad aU R ar H ae ah f1 bl a4 E aP aZ b0 aT aq;go_roundw
    case rel=>exact⟨k+1,M ++ [(x,1)],l ++ [B],z,C,_,by go_num,by omega,bC,bE,bx.out,a8⟩
    case measure=>simp[intOf];omega
open Classical in
noncomputable def kpB (xs:List Int) (M:FMs):Bool:=decide (∀ i,i<M.length->∃ j,j<M.length/\Rl xs (M.getD i fz).1 (M.getD j fz).1/\(M.getD i fz).2=(M.getD j fz).2)
theorem Po{M:FMs}{fm:List (Int×Value)}{x:Option Addr}(hF:Ft w base fB N M ps a c rB fm)(R:(M.map (·.1)).Nodup)(hx:SlI w x nx cx xs)(hp:Af xs=true)(hl:xs.length=N) :
 Calls prog 25 #[.pointer (some ⟨fB,0,none⟩),.slice x nx cx] w fun e w'=>e = .returned (.bool (kpB xs M))/\Ext w w':=by
 classical
 obtain⟨v,s⟩:∃ m,M.length=m:=⟨_,rfl⟩;have Q:=hF.fwa.cell (i:=0) (by simp);have f0:w.cell? ⟨fB,0,none⟩=some (.slice a v c):=by rw[<-s];exact Q
 have z:=hF.fwo.sl;rw[s]at z;have a3:v<=9223372036854775807:=by have h1:=z.cap;have h2:=z.max;unfold maxLen at h2;omega
 obtain⟨A,t⟩:∃ b,kpB xs M=b:=⟨_,rfl⟩;rw[t];have X:Hid (decide (∀ i,i<v->∃ j,j<v/\Rl xs (M.getD i fz).1 (M.getD j fz).1/\(M.getD i fz).2=(M.getD j fz).2)=A):=qh (by rw[<-t,<-s];rfl);have B:=qh hF;have W:=qh R;have HP:=qh hp;have HL:=qh hl;have d:=qh s;clear hF R hp hl s Q t
 go_enter func25,ntmps25
 go_wp2
 go_loopw[13] (fun iv wr=>∃ k:Nat,iv = .int .i64 k/\k<=v/\Ext w wr/\Hid (∀ i,i<k->∃ j,j<v/\Rl xs (M.getD i fz).1 (M.getD j fz).1/\(M.getD i fz).2=(M.getD j fz).2)) (fun iv _=>v-(intOf iv).toNat)
 case atStart=>exact⟨0,rfl,fu _,Ext.refl _,qh (fun i hi=>absurd hi (by omega))⟩
 case round =>
  obtain⟨k,rfl,hk,D,I⟩:=hrel;by_cases g:k<v
  case neg =>
   have HT:Hid (A=true):=qh (by rw[<-X.out];exact gn fun i hi=>I.out i (by omega));clear I;go_wp2;go_ret;exact⟨by rw[HT.out];rfl,D⟩
  have K:=z.ext D;obtain⟨b9,o9,rfl,P⟩:=K.rd (by omega);have gk:=P k g;have U:(ps.map pvM).getD k undef = .pointer (some ⟨ps.getD k 0,0,none⟩):=by
   have h1:k<ps.length:=by rw[B.out.fwl,d.out];exact g
   simp[h1,pvM]
  rw[U]at gk;obtain⟨q1,q2,q3⟩:=B.out.fwc k (by rw[d.out];exact g);have f:=qh (I3 (B.out.ext D) ((B.out.fwp k (by rw[d.out];exact g)).ext D) (hx.ext D) HP.out HL.out q1 q2);have y:=qh ((B.out.fwp k (by rw[d.out];exact g)).ext D);obtain⟨pb,S⟩:∃ p,ps.getD k 0=p:=⟨_,rfl⟩;rw[S]at gk f y;clear P U S K q1 q2 q3
  go_wp2_with fail
  refine f.out.mono ?_;rintro e w1 ⟨o,rfl,J,H⟩;clear f;have l:=D.trans J;cases o with
  | none =>
   have HN:Hid (A=false):=qh (by
    rw[<-X.out];refine fK fun h => ?_;obtain⟨j,V,hr,_⟩:=h k g
    exact H j (by rw[d.out];exact V) hr)
   clear H I y gk;simp only[TI]
   go_upto_region 5 with(fail)
   go_quiet (fail)
   go_wp2;go_ret;exact⟨by rw[HN.out];rfl,l.drewN _⟩
  | some i =>
   have n:Hid (i<v/\Rl xs (M.getD k fz).1 (M.getD i fz).1):=qh ⟨by rw[<-d.out];exact H.1,H.2⟩;obtain⟨r1,e1,d1,a1,b1,hA1,_⟩:=y.out.ext J;obtain⟨r2,e2,d2,a2,b2,hA2,_⟩:=(B.out.fwp i H.1).ext l;have u1:=hA1.c 3 rfl;have u2:=hA2.c 3 rfl;simp only[TI,pvM];obtain⟨pi,T⟩:∃ p,ps.getD i 0=p:=⟨_,rfl⟩;rw[T]at u2 |-
   have q:Hid ((M.getD k fz).2=(M.getD i fz).2->∀ j,j<k+1->∃ i,i<v/\Rl xs (M.getD j fz).1 (M.getD i fz).1/\(M.getD j fz).2=(M.getD i fz).2):=qh fun e j V=>by
    by_cases h:j<k
    · exact I.out j h
    · have:j=k:=by omega
      subst this;exact⟨i,n.out.1,n.out.2,e⟩
   have r:Hid ((M.getD k fz).2≠(M.getD i fz).2->A=false):=qh fun F=>by
    rw[<-X.out];refine fK fun h => ?_;obtain⟨j,V,hr,he⟩:=h k g;have E:j<M.length:=by rw[d.out];exact V
    have f:i<M.length:=by rw[d.out];exact n.out.1
    have G:=hr.det n.out.2 (B.out.fwc j E).1 (B.out.fwc i f).1;have a0:j=i:=by
     have h1:(M.map (·.1))[j]'(by simpa using E)=(M.map (·.1))[i]'(by simpa using f):=by
      simpa[E,f]using G
     exact(List.getElem_inj W.out).1 h1
    rw[a0]at he;exact F he
   obtain⟨Z,O⟩:∃ c,(M.getD k fz).2=c:=⟨_,rfl⟩;obtain⟨Y,L⟩:∃ c,(M.getD i fz).2=c:=⟨_,rfl⟩;rw[O]at u1 q r;rw[L]at u2 q r;clear H I y gk hA1 hA2 T O L n;by_cases G:Z=Y
   · have C:=qh (q.out G);have F:((Y:Int) != (Z:Int))=false:=by rw[G];simp
     clear G q r
     go_upto_region 5 with(fail)
     go_quiet (fail)
     go_wp2;go_roundw
     case rel=>exact⟨k+1,by go_num,by omega,l.drewN _,C⟩
     case measure=>simp[intOf];omega
   · have C:=qh (r.out G);have F:((Y:Int) != (Z:Int))=true:=by simp;omega
     clear G q r
     go_upto_region 5 with(fail)
     go_quiet (fail)
     go_wp2;go_ret;exact⟨by rw[C.out];rfl,l.drewN _⟩
end Go.Proofs.YthdbingomfdeoaaGreatDoor
