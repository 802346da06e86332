/- Part Py4. -/
import Derived.Test.YtlbmnokpiilfpaaGreatDoorPy3
import Derived.Deep.LoopGhost
set_option linter.all false
set_option maxRecDepth 100000
set_option maxHeartbeats 100000000
namespace Go.Proofs.YtlbmnokpiilfpaaGreatDoor
open Tryz Go Go.RowKit
def gN:=@List.getElem?_append_right
def gY:=@List.mem_of_getElem?
def iM:=@List.length_map
def ia:=@List.append_assoc
def iq:=@Int.natAbs_mul
def jI:=@Int.sign_eq_one_of_pos
def jJ:=@Obj.cells.injEq
def jL:=@decide_eq_decide
def jO:=@Nat.pow_mul
def jP:=@decide_eq_true_eq
def jX:=@Int.sign_eq_neg_one_of_neg
def jc:=@Nat.le_of_lt
def jp:=@List.append_nil
def kL:=@Nat.lt_trans
def kP:=@List.replicate_succ'
def kX:=@List.cons.injEq
def kj:=@Array.getElem?_eq_getElem
def kz:=@getD_replicate_false
def lW:=@List.mem_range
def lZ:=@List.getElem?_toArray
def lg:=@Classical.epsilon_spec
def mi:=@List.replicate_zero
def nQ:=@List.eq_nil_iff_forall_not_mem
def oA:=@wp_region_any
def oC:=@List.modify_zero_cons
def oD:=@List.modify_succ_cons
def oq:=@Bool.eq_iff_iff
def pA:=@Value.bool.injEq
variable {p q:Addr} {neg s:Bool} {y z:Int} {xs ys zs zs':List Nat} {l:List Oper} {cs cs':List Value} {B N R V X base c cx d g i j k m n nx off x:Nat} {a ax ay b:Option Addr} {cons qa qb:Option Nat} {T e t:TypeId} {u v v':Value} {w w' w0 w1 w2 w9:World}
section
variable {P:Program} {ops:Array Oper} {hs:List Hd} {a0:Act} {C:World->Prop} {i:Nat} {o:Oper}
theorem BR{c:Value}(d:B4 hs o=some true)(h:∀ a w,C9 a->C w->B3 ops hs a0 o a w o.op.operands.toList->(execOp a o).run P w = .ok (.value c) w) :
 obl P C ops hs a0 i o (he c):=by
 unfold obl;rw[d];intro a w hp b e;rw[h a w hp b e];exact⟨rfl,rfl⟩
theorem MY(a:B4 hs o=some false):obl P C ops hs a0 i o (he undef):=by
 unfold obl;rw[a];exact fun w _=>rfl
theorem G9{c:Value}{x:Operand}(e:B4 hs o=some true)(a:o.op = .move x\/o.op = .assign x)(h:∀ b w,C9 b->B3 ops hs a0 o b w [x]->b x=c):obl P C ops hs a0 i o (he c) :=
 BR e fun b w hp _ d=>by
  rcases a with a|a <;>
  · rw[a]at d;simp only[execOp,a,h b w hp d];rfl
theorem Sh{p:Value->World->Prop}(k:B4 hs o=some true)
 (h:∀ b w,C9 b->C w->B3 ops hs a0 o b w o.op.operands.toList->∃ f a,(execOp b o).run P w = .ok (.enter f a) w/\Calls P f a w (fun e c=>∃ u,e = .returned u/\Ext w c/\p u c)) :
 obl P C ops hs a0 i o ⟨false,.pr p,cons⟩:=by
 unfold obl;rw[k];intro b w hp d l;obtain⟨f,a,j,g⟩:=h b w hp d l;rw[j];exact g
theorem Ao{c:Value}(d:B4 hs o=some true)(h:∀ a w,C w->(∀ v,a (.const v)=v)->B3 ops hs a0 o a w o.op.operands.toList->(execOp a o).run P w = .ok (.value c) w):obl P C ops hs a0 i o (he c):=BR d fun a w hp b e=>h a w b hp.const e
theorem Ae{p:Value->World->Prop}(g:B4 hs o=some true)(h:∀ b w,C w->(∀ v,b (.const v)=v)->(∀ f,b (.func f) = .func (.func f) #[] #[])->B3 ops hs a0 o b w o.op.operands.toList->∃ f a,(execOp b o).run P w = .ok (.enter f a) w/\Calls P f a w (fun e c=>∃ u,e = .returned u/\Ext w c/\p u c)):obl P C ops hs a0 i o ⟨false,.pr p,cons⟩:=Sh g fun b w hp d j=>h b w d hp.const hp.func j
end
def Gt(ops:Array Oper)(n:Nat)(i:Nat)(o:Oper):Bool :=
 (List.range n).all (fun j=>(anc ops 12 (BI o)).contains j) || (BI o).any (fun k=>n<=k && k<i)
def Cc(ops:Array Oper)(cons:List (Option Nat))(size:Nat):Bool :=
 let n:=cons.length
 decide (n<=ops.size) && (List.range ops.size).all (fun i=>match ops[i]? with | some o=>if i<n then Ny ops cons n size i o else Gt ops n i o | none=>false) &&
 cons.all (fun k=>match k with | some k=>k<n | none=>true) &&
 Region.seqB .any ops (ops.size-n) n ((Array.range ops.size).map (fun j=>decide (j<n)))
section
variable {P:Program} {Q:Exit->Act->World->Prop}
theorem Gu{a:Act}(C:World->Prop)(b:List Hd)
 (N:Cc l.toArray (b.map (·.cons)) a.tmps.size=true)
 (a3:∀ w f,Ext w f->C w->C f) (hC:C w.drew) (a9:Fw b)
 (Z:J6 P C l.toArray b a 0 l b)
 (T:∀ f,C f->DA f (fun x=>wpList P l.toArray Q (l.drop b.length) x f) l b a):wpAny P .any l.toArray Q l.toArray.size (Array.replicate l.toArray.size false) a w.drew:=by
 unfold Cc at N;simp only[iH,iM,jP]at N;obtain⟨⟨⟨hn,O⟩,ac⟩,I⟩:=N;have ad:l.toArray.size=l.length:=by simp
 have g:∀ i o,l.toArray[i]?=some o->(i<b.length->DN l.toArray (b.map (·.cons)) b.length a.tmps.size i o)/\(b.length<=i->Gt l.toArray b.length i o=true):=by
  intro i o s;have G:i<l.toArray.size:=(gW.1 s).1;have:=j9.1 O i (by simpa using G);rw[s]at this;simp only at this;refine⟨fun h => ?_,fun h => ?_⟩
  · rw[pq h]at this;exact Hm this
  · rw[pf (by omega)]at this;exact this
 have ab:∀ m listed x f,unl listed b.length=m->Ic l.toArray b a C listed x f->wpAny P .any l.toArray Q (m+(l.toArray.size-b.length)) listed x f:=by
  intro m
  induction m with
  | zero =>
   intro listed x f hu e;have q:=FY hu;have L:listed=(Array.range l.toArray.size).map (fun j=>decide (j<b.length)):=by
    apply Array.ext
    · rw[e.size];simp
    · intro i h1 h2;simp only[Array.getElem_map,Array.getElem_range];by_cases G:i<b.length
      · have:=q i G;simp[h1]at this;simp[this,G]
      · have:=e.tailF i (by omega);simp[h1]at this;simp[this,G]
   -- the frame
   have ha:x=CL (fun j=>match A5 l.toArray j with | some d=>x.tmps.getD d undef | none=>Classical.epsilon (fun v=>(AK b j).ty.ok v f)) 0 l b a:=by
    apply OR
    · rw[Fx];exact e.defers
    · rw[Hn];exact e.tmps
    · intro t;by_cases J:∃ j o,j<b.length/\l[j]?=some o/\o.dst=some t
      · obtain⟨j,o,H,s,r⟩:=J;have X:l.toArray[j]?=some o:=by simpa using s
        have A:=(g j o X).1 H
        rw[IW b l 0 a j o H s r (A.dst t r) (by
         intro k' o' a7 M a4;have Y:l.toArray[k']?=some o':=by simpa using M
         by_cases W:k'=j
         · exact W
         · have:=A.apart k' a7 W (by rw[BK Y,a4,r]);rw[r]at this
           cases this)]
        rw[gL,BK X,r]
      · rw[Ej b l 0 a (fun k o D s r=>J ⟨k,o,D,s,r⟩)];refine e.frame t fun j H _ r=>J ?_;unfold A5 at r;cases s:l.toArray[j]? with
        | none=>rw[s]at r;cases r
        | some o=>rw[s]at r;exact⟨j,o,H,by simpa using s,r⟩
   have F:=IV (vs:=fun j=>match A5 l.toArray j with | some d=>x.tmps.getD d undef | none=>Classical.epsilon (fun v=>(AK b j).ty.ok v f)) b l 0 a (T f e.world)
    (by
     intro k D c R;rw[gL];cases r:A5 l.toArray k with
     | some d=>exact e.values k c D (q k D) R d r
     | none =>
      have:(AK b k).ty.ok (Classical.epsilon (fun v=>(AK b k).ty.ok v f)) f:=by
       apply lg (p:=fun v=>(AK b k).ty.ok v f);refine⟨c,?_⟩;rw[show(AK b k).ty = .eq c from R];rfl
      have h2:(AK b k).ty = .eq c:=R;rw[h2]at this;simp only[Ty.ok]at this;rw[h2]
      exact this)
    (by
     intro k D p hp R;rw[gL]
     obtain⟨v,hv,aa⟩:=e.facts k D (q k D) (by
      intro k' S;have h1:(AK b k).cons=none:=R;rw[h1]at S
      cases S)
     have h2:(AK b k).ty = .pr p:=hp;cases r:A5 l.toArray k with
     | some d =>
      simp only;rw[aa d r];rw[h2]at hv;exact hv
     | none =>
      have:(AK b k).ty.ok (Classical.epsilon (fun v=>(AK b k).ty.ok v f)) f:=lg (p:=fun v=>(AK b k).ty.ok v f) ⟨v,hv⟩;simp only;rw[h2]at this |-
      exact this)
   rw[<-ha]at F;rw[gL];have hl:(l.drop b.length).length=l.toArray.size-b.length:=by simp
   rw[<-hl];rw[<-hl,<-L]at I;exact wpAny_of_seq (l.drop b.length) b.length listed x f (by intro j;simp) I F
  | succ m ih =>
   intro listed x f hu e;rw[show m+1+(l.toArray.size-b.length)=(m+(l.toArray.size-b.length))+1 by omega];refine⟨fun z => ?_,fun i G => ?_⟩
   · obtain⟨j,H,B,a6⟩:=FZ (listed:=listed) (n:=b.length) (by omega);have V:j<l.toArray.size:=by omega
     have s:l.toArray[j]?=some l.toArray[j]:=kj V;have A:=(g j _ s).1 H
     have:j∈Region.ready .any l.toArray listed:=Me (by
      have:j<listed.size:=by rw[e.size];exact V
      simpa[this]using B) s (fun p hp=>a6 p (A.lt p hp))
     rw[z]at this;cases this
   · obtain⟨h0,o,s,a0⟩:=Eh G;have U:i<listed.size:=by rw[e.size];exact(gW.1 s).1
     have a5:listed.getD i false=false:=by simpa[U]using h0
     have K:i<b.length:=by
      rcases gQ i b.length with h|h
      · exact h
      · exfalso;have ht:=(g i o s).2 h;unfold Gt at ht;simp only[lS,j9,lW,ja,List.any_eq_true,iH,jP]at ht;rcases ht with ht|⟨k,D,a8,_⟩
        · obtain⟨j,H,B,_⟩:=FZ (listed:=listed) (n:=b.length) (by omega);rw[Ck e.closed 12 (BI o) a0 j (ht j H)]at B;cases B
        · have:=a0 k D;rw[e.tailF k a8]at this;cases this
     refine Q9 (by simpa using Z) a9 a3 e G K (fun o' M=>(g i o' M).1 K) fun a2 w2 a1 => ?_;refine ih _ a2 w2 ?_ a1;have:=Lg U a5 K;omega
 have E:Ic l.toArray b a C (Array.replicate l.toArray.size false) a w.drew:=by
  have A:∀ j,(Array.replicate l.toArray.size false).getD j false=false:=fun j=>kz _ j;refine⟨by simp,fun j _=>A j,(fun j h=>by rw[A j]at h;cases h),hC,rfl,rfl,fun _ _=>rfl,(fun j _ h=>by rw[A j]at h;cases h),(fun j c _ h=>by rw[A j]at h;cases h)⟩
 have y:unl (Array.replicate l.toArray.size false) b.length=b.length:=by
  have:∀ n,unl (Array.replicate l.toArray.size false) n=n:=by
   intro n
   induction n with
   | zero=>rfl
   | succ n ih=>rw[unl,ih,kz];simp
  exact this _
 have:=ab b.length _ a w.drew y E
 rwa[show b.length+(l.toArray.size-b.length)=l.toArray.size by omega]at this
theorem D7{id:Nat}{a:Act}(m:P.follows .mixedOrders=true)(C:World->Prop)(b:List Hd)
 (g:Cc l.toArray (b.map (·.cons)) a.tmps.size=true)
 (f:∀ w c,Ext w c->C w->C c) (k:C w.drew) (i:Fw b)
 (e:J6 P C l.toArray b a 0 l b)
 (d:∀ c,C c->DA c (fun j=>wpList P l.toArray Q (l.drop b.length) j c) l b a):(Code.region id l.toArray true).wp P Q a w :=
 oA m (Gu C b g f k i e d)
theorem A0:(∀ {α:Type} {a:α} {l:List α},(a :: l).length=l.length+1)/\(∀ {α:Type},([]:List α).length=0)/\(∀ {α:Type} {a:α} {l:List α} {n:Nat},(a :: l).drop (n+1)=l.drop n)/\(∀ {α:Type} {l:List α},l.drop 0=l)/\(∀ (a:Act) (d:Tmp) (v:Value),a.put (some d) v={ a with tmps:=a.tmps.setIfInBounds d v })/\(∀ (a:Act) (v:Value),a.put none v=a)/\(∀ {α:Type} {l:List α} {i:Nat} {a:α},l.toArray.setIfInBounds i a=(l.set i a).toArray)/\(∀ {α:Type} {x:α} {l:List α} {n:Nat} {a:α},(x :: l).set (n+1) a=x :: l.set n a)/\(∀ {α:Type} {x:α} {l:List α} {a:α},(x :: l).set 0 a=a :: l) :=
 ⟨io,lu,kf,iw,fun _ _ _=>rfl,fun _ _=>rfl,lD ..,kN,ll⟩
def Pn:List Hd->Prop
 | []=>True
 | ⟨_,.eq _,_⟩ :: r=>Pn r
 | ⟨_,.pr p,_⟩ :: r=>(∀ v w w',Ext w w'->p v w->p v w')/\Pn r
theorem EY:∀ {hs:List Hd},Pn hs->Fw hs
 | [],_=>trivial
 | ⟨_,.eq _,_⟩ :: _,h=>⟨trivial,EY h⟩
 | ⟨_,.pr _,_⟩ :: _,h=>⟨h.1,EY h.2⟩
abbrev hdP(b o:Nat):Hd:=he (.pointer (some ⟨b,o,none⟩))
abbrev hdI(z:Int):Hd:=he (.int .i64 z)
abbrev hdB(b:Bool):Hd:=he (.bool b)
abbrev hdS(a:Option Addr)(n c:Nat):Hd:=he (.slice a n c)
abbrev hdU:Hd:=he undef
theorem Ac{id:Nat}{a:Act}(b:List Hd)(g:Pn b)
 (d:J6 P (fun m=>Ext w m) l.toArray b a 0 l b)
 (c:∀ i,Ext w i->DA i (fun j=>wpList P l.toArray Q (l.drop b.length) j i) l b a)
 (k:P.follows .mixedOrders=true:=by kernel_rfl) (f:Cc l.toArray (b.map (·.cons)) a.tmps.size=true:=by kernel_rfl):(Code.region id l.toArray true).wp P Q a w :=
 D7 k _ b f (fun _ _ e h=>h.trans e) ((Ext.refl w).drew) (EY g) d c
end
structure Hz(w wr:World)(N G:Nat)(aa:Option Addr)(na ca:Nat)(ab:Option Addr)(nb cb X Y:Nat)(xs ys:List Nat):Prop where
 ext:Ext w wr
 own1:Own wr w.heap.size 238 aa na ca (xs.map (Bt .u64))
 own2:Own wr w.heap.size 238 ab nb cb (ys.map (Bt .u64))
 ne:0<nb->blk aa≠blk ab
 n1:Num 18446744073709551616 xs X
 n2:Num 18446744073709551616 ys Y
 le:Y<=X
 pos:0<X
 gcd:Nat.gcd X Y=G
 bnd:X<18446744073709551616^N
theorem De(h:Num 18446744073709551616 xs X)(a:X<18446744073709551616^N):xs.length<=N :=
 W.nrm_len (B:=18446744073709551616) (by omega) h.nrm (by rw[h.val];exact a)
theorem Po(h:Num 18446744073709551616 xs X)(hp:0<X):0<xs.length:=by
 rcases oV xs.length with h0|h0
 · have:xs=[]:=oX h0;have a:=h.val;rw[this]at a;simp only[W.val]at a;omega
 · exact h0
theorem EZ(h:Num 18446744073709551616 xs X)(hp:xs.length=0):X=0:=by
 have:xs=[]:=oX hp;have a:=h.val;rw[this]at a;exact a.symm
theorem LQ(h:Num 18446744073709551616 xs X)(hp:xs.length=1):xs.getD 0 0=X/\X<18446744073709551616/\0<X:=by
 match xs,hp with
 | [u],_ =>
  have a:=h.val;have b:=h.bnd u (by simp);have c:=h.nrm (by simp);simp[W.val]at a c;subst a;exact⟨rfl,b,by omega⟩
def AL(w:World)(G0:Nat)(cv:Int)(v0 v1:Value):Prop:=∃ a n c b m d xs ys x y,v0 = .slice a n c/\v1 = .slice b m d/\SlN .u64 w a n c xs/\SlN .u64 w b m d ys/\Num 18446744073709551616 xs x/\Num 18446744073709551616 ys y/\n<=150/\m<=150/\Nat.gcd x y=G0/\(cv<0<->x<y)
theorem LR{y:Nat}(hT:AV w)(P:SlN .u64 w a n c xs)(hy:SlN .u64 w b m d ys)(M:Num 18446744073709551616 xs x)(ny:Num 18446744073709551616 ys y)(hn:n<=150)(hm:m<=150) :
 Calls prog 204 #[.slice a n c,.slice b m d] w (Ib .u64 18446744073709551616 w (Nat.gcd x y)):=by
 have ag:=oK (Bh P hy M ny);obtain⟨G0,l⟩:∃ G0,Nat.gcd x y=G0:=⟨_,rfl⟩;rw[l];have a4:=oK (C3 (x:=x) (y:=y));obtain⟨cv,aJ⟩:∃ cv,AW (x:Int) (y:Int)=cv:=⟨_,rfl⟩;rw[aJ]at ag a4;have HI:Hid (AL w G0 cv (.slice a n c) (.slice b m d)):=oK ⟨a,n,c,b,m,d,xs,ys,x,y,rfl,rfl,P,hy,M,ny,hn,hm,l,by have:=a4.out;omega⟩;clear aJ l P hy M ny hn hm a4
 go_enter func204,ntmps204
 go_wp2_with fail
 refine ag.out.mono ?_;rintro e w0 ⟨rfl,aE⟩;have t:=aE.ext;clear ag aE
 go_upto_if 13 with(fail)
 go_cut [0,1] from 14 to 71 (fun v0 v1 o=>AL w G0 0 v0 v1/\o=w0)
 case first =>
  obtain⟨a,n,c,b,m,d,xs,ys,x,y,h1,h2,P,hy,M,ny,hn,hm,l,D⟩:=HI.out;simp only[pk]at h1 h2;obtain⟨rfl,rfl,rfl⟩:=h1;obtain⟨rfl,rfl,rfl⟩:=h2;have az:=oK D;have ay:=oK l;clear D l HI;by_cases hc:cv<0
  · go_wp2_with fail
    go_meet
    exact⟨⟨_,_,_,_,_,_,ys,xs,y,x,rfl,rfl,hy,P,ny,M,hm,hn,by rw[jF];exact ay.out,by have:=az.out.1 hc;omega⟩,rfl⟩
  · go_wp2_with fail
    go_meet
    exact⟨⟨_,_,_,_,_,_,xs,ys,x,y,rfl,rfl,P,hy,M,ny,hn,hm,ay.out,by have:=mt az.out.2 (by omega);omega⟩,rfl⟩
 case rest =>
  obtain⟨⟨a,n,c,b,m,d,xs,ys,x,y,rfl,rfl,P,hy,M,ny,hn,hm,l,D⟩,bu⟩:=hcut;subst bu;have ax:=oK l;have HX:=oK P.len;have HY:=oK hy.len;have NX:=oK M;have NY:=oK ny;have aH:x<18446744073709551616^n:=by have:=W.val_lt M.bnd;rw[M.val,P.len]at this;exact this
  have HB:=oK aH;have ao:y<=x:=by have:=D;omega
  have al:=P.ext t;have aR:=hy.ext t;clear aH M ny D l HI;by_cases E:m=0
  · have au:y=0:=EZ NY.out (by rw[HY.out];exact E);have f:Hid (G0=x):=by show _=_;rw[<-ax.out,au];exact li _
    have bh:((m:Int) == 0)=true:=by simp[E]
    clear au E;go_wp2;go_ret;exact⟨a,n,c,xs,rfl,t,al,by rw[f.out];exact NX.out⟩
  have bh:((m:Int) == 0)=false:=by simpa using E
  have bE:0<y:=by
   rcases oV y with h|h
   · exfalso;have h1:W.val 18446744073709551616 ys=0:=by rw[NY.out.val,h]
     have h2:=(W.nrm_zero (B:=18446744073709551616) (by omega) NY.out.nrm).1 h1;have h3:=HY.out;rw[h2]at h3;exact E h3.symm
   · exact h
  clear E
  go_wp2_with fail
  refine(Cn al (by omega)).mono ?_;rintro e w1 ⟨a1,c1,rfl,V,a9⟩
  go_wp2_with fail
  refine(Cn (aR.ext V) (by omega)).mono ?_;rintro e w2 ⟨a2,c2,rfl,a5,ac⟩;have K:Hz w w2 n (G0) a1 n c1 a2 m c2 x y xs ys:=by
   refine⟨(t.trans V).trans a5,(a9.mono t.size).ext a5,ac.mono (t.trans V).size,fun h0 he => ?_,NX.out,NY.out,ao,by omega,ax.out,HB.out⟩;obtain⟨g2,rfl,bR,_⟩:=ac.place h0;have:=(a9.lt (k:=g2) (by rw[he];rfl)).2;omega
  have f:=oK K;clear K a9 ac V a5 al aR t;go_wp2
  go_loopg [5,6] (x+y) (fun gk av bv wr=>∃ (aa F:Option Addr) (s N i T X Y:Nat) (us Q:List Nat),av = .slice aa s N/\bv = .slice F i T/\s<=150/\i<=s/\X+Y<=gk/\Hid (Hz w wr n (G0) aa s N F i T X Y us Q))
  case atStart =>
   refine⟨a1,a2,n,c1,m,c2,x,y,xs,ys,rfl,rfl,by omega,?_,lrf _,f⟩;have h1:=De NY.out (oR ao HB.out);rw[HY.out]at h1;exact h1
  case round =>
   clear f;obtain⟨aa,F,s,N,i,T,X,Y,us,Q,rfl,rfl,bW,bj,bU,f⟩:=hrel;have HU:Hid (us.length=s):=oK (by have:=f.out.own1.len;simpa using this);have HV:Hid (Q.length=i):=oK (by have:=f.out.own2.len;simpa using this);have bd:=f.out.pos;have Z:=f.out.le;have ap:0<s:=by have:=Po f.out.n1 bd;rw[HU.out]at this;exact this
   have J:SlN .u64 wr aa s N us:=f.out.own1.sl;have a0:SlN .u64 wr F i T Q:=f.out.own2.sl;obtain⟨O,rfl,bH,aT⟩:=f.out.own1.place ap;by_cases h1:i<=1
   · by_cases h0:i=0
     · have aF:Y=0:=EZ f.out.n2 (by rw[HV.out];exact h0);have HF:Hid (Num 18446744073709551616 us (G0)):=by
        have h2:=f.out.gcd;rw[aF,li]at h2;have h3:=f.out.n1;rw[h2]at h3;exact oK h3
       have U:=f.out.ext;subst h0;clear aF h1;go_wp2;go_ret;exact⟨_,s,N,us,rfl,U,J,HF.out⟩
     · have h11:i=1:=by omega
       subst h11;obtain⟨k1,k2,k3⟩:=LQ f.out.n2 HV.out;obtain⟨b2,o2,rfl,H⟩:=a0.at (j:=0) (by omega);have g1:=H 0 (by omega);rw[k1,gP]at g1;have HF:Hid (Nat.gcd Y (X%Y)=G0):=by
        show _=_;rw[<-f.out.gcd,jF X Y,mN Y X,jF]
       have U:=f.out.ext;have bc:=hT.ext U;have bg:Nat.gcd Y (X%Y)<18446744073709551616:=by have:=kM k3 (jM Y (X%Y));omega
       have bn:=fun(o:World) (h:Ext wr o)=>DF (d:=Y) (J.ext h) f.out.n1.bnd f.out.n1.val k2 k3 (by omega);clear H h1 h0 k1;have aW:X%Y<18446744073709551616:=by have:=gE X k3;omega
       go_wp2
       refine Ac
        [hdS (some ⟨b2,o2,none⟩) 1 T,hdP b2 o2,he (.int .u64 (Y:Int)),hdS (some ⟨O,0,none⟩) s N,hdS (some ⟨b2,o2,none⟩) 1 T,hdP b2 o2,he (.int .u64 (Y:Int)),hp (fun v o=>v = .int .u64 ((X%Y:Nat):Int)),hp (fun v o=>v = .int .u64 ((Nat.gcd Y (X%Y):Nat):Int)),hp (fun v o=>∃ a' n' c' zs,v = .slice a' n' c'/\SlN .u64 o a' n' c' zs/\Num 18446744073709551616 zs (Nat.gcd Y (X%Y)))]
        ⟨fun v w w' e h=>h,fun v w w' e h=>h,fun v w w' e ⟨a',n',c',zs,h1,h2,h3⟩=>⟨a',n',c',zs,h1,h2.ext e,h3⟩,trivial⟩ ⟨?o0,?o1,?o2,?o3,?o4,?o5,?o6,?o7,?o8,?o9,trivial⟩ ?fin
       case o0 | o3 | o4=>exact G9 rfl (.inl rfl) (fun _ _ _ h=>h.1)
       case o1 | o2 | o5 | o6 =>
        refine Ao rfl fun ρ o hC I h => ?_
        try have e0:_=_:=h.1
        try have e1:_=_:=h.2.1
        try have e2:_=_:=h.2.2.1
        have bT:=hC.cell g1;go_simp
        try (first | (intros;omega) | exact oP _ (by omega))
       case o7 =>
        refine Ae rfl fun ρ o hC I aL h => ?_;have e1:_=_:=h.2.1;have e2:_=_:=h.2.2.1;refine⟨243,#[.slice (some ⟨O,0,none⟩) s N,.int .u64 (Y:Int)],by go_simp,(bn o hC).mono ?_⟩;rintro e w' ⟨rfl,b9⟩;exact⟨_,rfl,b9.ext,rfl⟩
       case o8 =>
        refine Ae rfl fun ρ o hC I aL h => ?_;have e1:_=_:=h.2.1;obtain⟨v2,e2,rfl⟩:=h.2.2.1;refine⟨242,#[.int .u64 (Y:Int),.int .u64 ((X%Y:Nat):Int)],by go_simp,(Hy (bc.ext hC) k2 aW).mono ?_⟩;rintro e w' ⟨rfl,rfl⟩;exact⟨_,rfl,Ext.refl _,rfl⟩
       case o9 =>
        refine Ae rfl fun ρ o hC I aL h => ?_;obtain⟨v1,e1,rfl⟩:=h.2.1;refine⟨217,#[.int .u64 ((Nat.gcd Y (X%Y):Nat):Int)],by go_simp,(El bg).mono ?_⟩;rintro e w' ⟨a',n',c',zs,rfl,b4,bo,bi⟩;exact⟨_,rfl,b4,a',n',c',zs,rfl,bo,bi⟩
       case fin =>
        intro o hC;rintro _ rfl;rintro _ rfl;rintro _ ⟨b0,bx,b1,bD,rfl,bB,bC⟩;change wpList _ _ _ _ _ _;simp only[A0];go_wp2;go_ret;exact⟨b0,bx,b1,bD,rfl,U.trans hC,bB,by rw[<-HF.out];exact bC⟩
   · have be:(1:Int)<i:=by omega
     obtain⟨gb,rfl,bK,aU⟩:=f.out.own2.place (by omega);have bX:O≠gb:=by have:=f.out.ne (by omega);simpa[blk]using this
     have U:=f.out.ext
     go_wp2_with fail
     refine(Gr J a0 f.out.n1 f.out.n2 (by omega) Z (nn:=s-2) (by omega)).mono ?_;rintro e w3 ⟨u0,u1,v0,v1,aS,rfl,G,bp,bq,br,bs,K⟩;have aA:=oK K;clear K
     go_upto_region 8 with(refine Aa rfl rfl rfl rfl rfl Cv (Arr.new _ _ _) rfl (Ex _ _ _ _ _) ?_;intro w4 ad aM)
     have aB:Ext w3 w4:=((Ext.refl w3).alloc _).grownR aM (lrf _);have g:=G.trans aB;have o1:=f.out.own1.ext g;have o2:=f.out.own2.ext g;have s2:=ad.c 2 rfl;by_cases L:v0=0
     · subst L;have C:0<Y:=by
        rcases oV Y with h|h
        · exfalso;have h2:=(W.nrm_zero (B:=18446744073709551616) (by omega) f.out.n2.nrm).1 (by rw[f.out.n2.val,h]);have h3:=HV.out;rw[h2]at h3;simp at h3;omega
        · exact h
       have aK:=C7 (J.ext g) (a0.ext g) f.out.n1 f.out.n2 (by omega) (by omega) C (by omega)
       go_wp2_with fail
       refine aK.mono ?_;rintro e w5 ⟨p1,p2,p3,p4,ar,nr,cr,rs,rfl,A,_,_,ai,am,_⟩;have bY:nr<=150:=by
        have h1:=De am (kL (gE X C) (oR Z f.out.bnd));rw[ai.len]at h1;omega
       have bm:nr<=i:=by
        have h1:=W.val_lt f.out.n2.bnd;rw[f.out.n2.val,HV.out]at h1;have h2:=De am (kL (gE X C) h1);rw[ai.len]at h2;exact h2
       clear aK
       go_wp2_with fail
       refine(Cn ai (by omega)).mono ?_;rintro e w6 ⟨a6,c6,rfl,b5,aC⟩;have an:=(g.trans A).trans b5;have a3:Hid (Hz w w6 n (G0) (some ⟨gb,0,none⟩) i T a6 nr c6 Y (X%Y) Q rs):=by
        refine oK ⟨U.trans an,f.out.own2.ext an,aC.mono ((U.trans g).trans A).size,fun h0 he => ?_,f.out.n2,am,jc (gE X C),C,?_,oR Z f.out.bnd⟩
        · obtain⟨g6,rfl,bS,_⟩:=aC.place h0;simp only[blk,jm,oQ]at he;have:=g.size;have:=A.size;omega
        · rw[<-f.out.gcd,jF X Y,mN Y X,jF]
       have bV:Y+X%Y<X+Y:=by have:=gE X C;omega
       go_wp2
       go_roundg (Y+X%Y)
       case rel=>exact⟨_,a6,i,T,nr,c6,Y,X%Y,Q,rs,rfl,rfl,by omega,bm,lrf _,a3⟩
       case measure=>omega
     · have bO:((v0:Int) == 0)=false:=by simpa using L
       have aZ:∃ p q,W.Steps X Y u0 u1 v0 v1 aS p q:=by
        rcases aA.out with h|h
        · exact absurd h L
        · exact h
       obtain⟨p,q,aP⟩:=aZ;have R:=oK aP;clear aP aA;have bL:gb<w3.heap.size:=ph aU G.size;have bJ:O<w3.heap.size:=ph aT G.size;have bQ:w.heap.size<=w3.heap.size:=(U.trans G).size;have A:=U.trans g;clear J a0 be aB aM g G;generalize w3.heap.size=S at *
       go_wp2;clear s2;obtain⟨wo,bw⟩:∃ wo:World,wo=wr:=⟨_,rfl⟩;subst bw
       go_loopw[6] (fun bv o=>∃ (F:Option Addr) (z cc:Nat),bv = .slice F z cc/\i<=z/\z<=s/\Ext w o/\Own o w.heap.size 238 (some ⟨O,0,none⟩) s N (us.map (Bt .u64))/\Own o w.heap.size 238 F z cc ((Q ++ List.replicate (z-i) 0).map (Bt .u64))/\blk F≠some O/\Arr o S 268 (CF u0 u1 v0 v1 aS)/\blk F≠some S) (fun bv _=>match bv with | .slice _ k _=>s-k | _=>0)
       case atStart=>exact⟨_,i,T,rfl,lrf _,bj,A,o1,by rw[jt,mi,jp];exact o2,by simp[blk];omega,ad,by simp[blk];omega⟩
       case round =>
        clear o1 o2 ad A;obtain⟨F,z,cc,rfl,bM,bN,a8,o1,o2,af,r,aI⟩:=hrel;by_cases D:z<s
        · have hA:=o2.alloc (.cells #[.int .u64 0] 238);have hL:=(Ay wr w.heap.size 238 #[.int .u64 0] 1 rfl a8.size (by omega)).sl;have bf:∀ k,blk F=some k->w.heap.size<=k:=fun k hk=>(o2.lt hk).1;have bI:=(o1.lt (k:=O) rfl).2;have bP:=r.lt
          go_wp2_with(refine BB rfl rfl underlying81 AF rfl rfl hA rfl hL (by simp[Value.oneCell']) (by unfold maxLen;omega) (by omega) (by simp;omega) ?_;intro a7 c7 w7 aD ah ae)
          have b6:Ext w w7:=(a8.alloc _).grown ah bf;have bA:=(o1.alloc (.cells #[.int .u64 0] 238)).kept ah (Or.inr (fun h=>af h.symm));have ba:=(r.alloc (.cells #[.int .u64 0] 238)).kept ah (fun h=>aI h.symm);have aX:blk a7≠some O:=by
           rcases ae with h|h
           · rw[h];exact af
           · rw[h];simp;omega
          have aY:blk a7≠some S:=by
           rcases ae with h|h
           · rw[h];exact aI
           · rw[h];simp;omega
          have b8:Own w7 w.heap.size 238 a7 (z+1) c7 ((Q ++ List.replicate (z+1-i) 0).map (Bt .u64)):=by
           have e1:z+1-i=z-i+1:=by omega
           rw[e1,kP,<-ia,im];exact aD
          clear aD hA hL ae;go_roundw
          case rel=>exact⟨a7,z+1,c7,rfl,by omega,by omega,b6,bA,b8,aX,ba,aY⟩
          case measure=>simp;omega
        · have b3:z=s:=by omega
          subst b3;obtain⟨g2,rfl,bF,bG⟩:=o2.place ap;have aq:O≠g2:=by intro h;subst h;exact af rfl
          have vb:W.val 18446744073709551616 (Q ++ List.replicate (z-i) 0)=Y:=by rw[Gj,f.out.n2.val]
          have bb:W.bnd 18446744073709551616 (Q ++ List.replicate (z-i) 0):=IB (by omega) f.out.n2.bnd _;have aG:=KU a8 o1 o2 aq f.out.n1.bnd bb f.out.n1.val vb bp bq br bs R.out (by omega);have aw:=oK aG;clear aG vb bb;have s0:=r.c 0 rfl;have s1:=r.c 1 rfl;have s2:=r.c 2 rfl;have s3:=r.c 3 rfl;have s4:=r.c 4 rfl
          go_wp2_with fail
          refine aw.out.mono ?_;rintro e w8 ⟨rfl,b7,zs,ts,oz,ot,bz,bt,vz,vt⟩;clear s0 s1 s2 s3 s4 r aw
          go_wp2_with fail
          refine(Bk oz.sl).mono ?_;rintro e w9 ⟨m1,rfl,rfl,aN,aj⟩
          go_wp2_with fail
          refine(Bk ot.sl).mono ?_;rintro e w9 ⟨m2,rfl,rfl,aO,ak⟩;obtain⟨t1,t2⟩:=Bq oz.sl aN aj bz vz;obtain⟨t3,t4⟩:=Bq ot.sl aO ak bt vt;have o3:=oz.upto aN;have o4:=ot.upto aO;rw[<-aj]at o3;rw[<-ak]at o4;have aQ:=R.out.lt;have bk:=R.out.le;have bl:p<18446744073709551616^n:=oR (oS bk Z) f.out.bnd;have aV:m2<=m1:=by
           have h1:=W.val_lt t2.bnd;rw[t2.val,t1.len]at h1;have h2:=De t4 (kL aQ h1);rw[t3.len]at h2;exact h2
          have a3:Hid (Hz w w8 n (G0) (some ⟨O,0,none⟩) m1 N (some ⟨g2,0,none⟩) m2 cc p q (W.trim zs) (W.trim ts)) :=
           oK ⟨b7,o3,o4,fun _=>by simpa[blk]using aq,t2,t4,jc aQ,by omega,by rw[R.out.gcd,f.out.gcd],bl⟩
          clear aj ak t1 t2 t3 t4 o3 o4 oz ot bz bt vz vt o1 o2;go_wp2
          go_roundg (p+q)
          case rel=>exact⟨_,_,m1,N,m2,cc,p,q,W.trim zs,W.trim ts,rfl,rfl,by omega,aV,lrf _,a3⟩
          case measure=>omega
def Si(P:Program)(T:TypeId):Bool:=match P.underlying T with
 | none | some (.struct _) | some (.array _ _)=>false
 | _=>true
def U9(P:Program)(T:TypeId)(k:Nat):Option Nat:=match P.underlying T with
 | some (.struct fs)=>(fs[k]?).bind fun f=>(match (P.info? f.type).map (·.size)with | some (_+1)=>some f.offset | _=>none)
 | _=>none
section
variable {P:Program} {w:World}
theorem TP(a:Si P T=true)(c:w.cell? p=some v):(Instr.loadAt T (.pointer (some p))).run P w = .ok v w:=by
 unfold Si at a;cases h:P.underlying T with
 | none=>rw[h]at a;cases a
 | some d =>
  rw[h]at a;have b:(isAgg T).run P w = .ok false w:=by
   simp only[isAgg,gI,ip h,p9];cases d <;> first | rfl | cases a
  simp[Instr.loadAt,Instr.sureAddr,loadVar,b,c]
theorem Pp{b:Nat}(e:Agg P T cs.length)(f:∀ j v,cs[j]?=some v->w.cell? ⟨b,off+j,none⟩=some v):(Instr.loadAt T (.pointer (some ⟨b,off,none⟩))).run P w = .ok (.agg cs.toArray) w:=by
 obtain⟨d,hu,g,a⟩:=e.parts;have h1:(isAgg T).run P w = .ok true w:=by
  simp only[isAgg,gI,ip hu,p9];cases d <;> first | rfl | exact absurd g (by simp)
 obtain⟨i,c,l⟩:∃ i,P.info? T=some i/\i.size=cs.length:=by
  cases h:P.info? T with
  | none=>rw[h]at a;cases a
  | some i=>rw[h]at a;exact⟨i,rfl,by simpa using a⟩
 have h2:=run_loadCells_list (P:=P) w ⟨b,off,none⟩ cs (fun j v k=>by
  have:=f j v k;unfold Addr.add;split
  · rename_i h0;rw[h0,gP]at this;exact this
  · exact this)
 simp[Instr.loadAt,Instr.sureAddr,loadVar,h1,sizeOf,typeInfo,c,l,h2]
theorem Va{b:Nat}(h:U9 P T k=some d):(Instr.fieldAt T (.pointer (some ⟨b,off,none⟩)) k).run P w = .ok (.pointer (some ⟨b,off+d,none⟩)) w:=by
 unfold U9 at h;split at h
 · rename_i j hu;cases c:j[k]? with
   | none=>rw[c]at h;cases h
   | some f =>
    rw[c]at h;simp only[ks]at h;split at h
    · rename_i n a;cases h;obtain⟨i,g,l⟩:∃ i,P.info? f.type=some i/\i.size=n+1:=by
       cases h:P.info? f.type with
       | none=>rw[h]at a;cases a
       | some i=>rw[h]at a;exact⟨i,rfl,by simpa using a⟩
      have e:(⟨b,off,none⟩:Addr).add f.offset=⟨b,off+f.offset,none⟩:=by
       unfold Addr.add;split
       · rename_i h0;rw[h0,gP]
       · rfl
      simp[Instr.fieldAt,ip hu,c,Instr.sureAddr,fieldPlace,sizeOf,typeInfo,g,l,e]
    · cases h
 · cases h
end
section
variable {P:Program} {ops:Array Oper} {hs:List Hd} {a0:Act} {W:World} {i:Nat} {o:Oper}
theorem ol{t:Tmp}(f:B4 hs o=some true:=by rfl)(b:o.op = .load T (.tmp t):=by rfl)(g:∀ a w,J5 ops hs a0 o a w (.tmp t)->a (.tmp t) = .pointer (some p):=by exact fun _ _=>id)(d:Si P T=true:=by kernel_rfl)(e:W.cell? p=some v:=by assumption):obl P (fun j=>Ext W j) ops hs a0 i o (he v) :=
 BR f fun a w hp c h=>by
  rw[b]at h;simp only[execOp,b,g a w h.1,gI,TP d (c.cell e),p9,gS]
theorem ol2{t:Tmp}{b:Nat}(k:B4 hs o=some true:=by rfl)(e:o.op = .load T (.tmp t):=by rfl)(l:∀ c w,J5 ops hs a0 o c w (.tmp t)->c (.tmp t) = .pointer (some ⟨b,off,none⟩):=by exact fun _ _=>id)(f:Agg P T 2:=by exact⟨by kernel_rfl,by kernel_rfl⟩)(h0:W.cell? ⟨b,off,none⟩=some u:=by assumption)(h1:W.cell? ⟨b,off+1,none⟩=some v:=by assumption):obl P (fun m=>Ext W m) ops hs a0 i o (he (.agg #[u,v])) :=
 BR k fun c w hp d h=>by
  rw[e]at h
  have g:(Instr.loadAt T (.pointer (some ⟨b,off,none⟩))).run P w = .ok (.agg [u,v].toArray) w:=Pp (cs:=[u,v]) f (fun j x a=>by
   match j,a with
   | 0,a=>cases a;exact d.cell h0
   | 1,a=>cases a;exact d.cell h1
   | j+2,a=>simp at a)
  simp only[execOp,e,l c w h.1,gI,g,p9,gS]
theorem ol4{t:Tmp}{b:Nat}{x y:Value}(k:B4 hs o=some true:=by rfl)(e:o.op = .load T (.tmp t):=by rfl)(l:∀ d w,J5 ops hs a0 o d w (.tmp t)->d (.tmp t) = .pointer (some ⟨b,off,none⟩):=by exact fun _ _=>id)(f:Agg P T 4:=by exact⟨by kernel_rfl,by kernel_rfl⟩)(h0:W.cell? ⟨b,off,none⟩=some u:=by assumption)(h1:W.cell? ⟨b,off+1,none⟩=some v:=by assumption)(h2:W.cell? ⟨b,off+2,none⟩=some x:=by assumption)(h3:W.cell? ⟨b,off+3,none⟩=some y:=by assumption):obl P (fun m=>Ext W m) ops hs a0 i o (he (.agg #[u,v,x,y])) :=
 BR k fun d w hp c h=>by
  rw[e]at h
  have g:(Instr.loadAt T (.pointer (some ⟨b,off,none⟩))).run P w = .ok (.agg [u,v,x,y].toArray) w:=Pp (cs:=[u,v,x,y]) f (fun j z a=>by
   match j,a with
   | 0,a=>cases a;exact c.cell h0
   | 1,a=>cases a;exact c.cell h1
   | 2,a=>cases a;exact c.cell h2
   | 3,a=>cases a;exact c.cell h3
   | j+4,a=>simp at a)
  simp only[execOp,e,l d w h.1,gI,g,p9,gS]
theorem ofa{t:Tmp}{b:Nat}(g:B4 hs o=some true:=by rfl)(c:o.op = .fieldAddr T (.tmp t) k:=by rfl)(j:∀ a w,J5 ops hs a0 o a w (.tmp t)->a (.tmp t) = .pointer (some ⟨b,off,none⟩):=by exact fun _ _=>id)(e:U9 P T k=some d:=by kernel_rfl)(f:q=⟨b,off+d,none⟩:=by rfl){C:World->Prop}:obl P C ops hs a0 i o (he (.pointer (some q))) :=
 BR g fun a w hp l h=>by
  rw[c]at h;simp only[execOp,c,j a w h.1,gI,Va e,p9,gS,f]
theorem onc{t:Tmp}(c:B4 hs o=some true:=by rfl)(b:o.op = .nilCheck (.tmp t):=by rfl)(d:∀ a w,J5 ops hs a0 o a w (.tmp t)->a (.tmp t) = .pointer (some p):=by exact fun _ _=>id){C:World->Prop}:obl P C ops hs a0 i o (he (.pointer (some p))) :=
 BR c fun a w hp e h=>by
  rw[b]at h;simp only[execOp,b,d a w h.1,gS]
theorem omv{t:Tmp}{c:Value}(d:B4 hs o=some true:=by rfl)(b:o.op = .move (.tmp t):=by rfl)(e:∀ a w,J5 ops hs a0 o a w (.tmp t)->a (.tmp t)=c:=by exact fun _ _=>id){C:World->Prop}:obl P C ops hs a0 i o (he c) :=
 G9 d (.inl b) fun a w _ h=>e a w h.1
end
def P2(b:Nat):Nat:=2^b
theorem Ha(b:Nat):0<P2 b:=gJ b
theorem DL(a b:Nat):P2 (a+b)=P2 a*P2 b:=iW 2 a b
theorem Pq{a b:Nat}(h:a<=b):P2 a<=P2 b:=oT (by omega) h
theorem Sj(k:Nat):P2 (64*k)=18446744073709551616^k:=by unfold P2;rw[jO]
theorem BF{y a b:Nat}(c:x<P2 a)(d:y<P2 b):x*y<P2 (a+b):=by
 rw[DL];exact Nat.mul_lt_mul'' c d
theorem Jz{y a:Nat}(b:x<P2 a)(c:y<P2 a):x+y<P2 (a+1):=by
 rw[DL];show x+y<P2 a*2;omega
theorem Aj{a b:Nat}(c:x<P2 a)(h:a<=b):x<P2 b:=ph c (Pq h)
theorem Ak:Agg prog 83 2:=⟨by kernel_rfl,by kernel_rfl⟩
theorem qh{p:Prop}(h:p):Hid p:=oK h
def Ab(neg:Bool)(a:Option Addr)(n c:Nat):List Value:=[.bool neg,.slice a n c]
theorem Ad(neg:Bool)(a:Option Addr)(n c:Nat):∀ v∈Ab neg a n c,v.oneCell'=true:=by
 intro v b;simp only[Ab,gV,jN,me]at b;rcases b with rfl|rfl <;> rfl
def Wd(w:World)(a:Option Addr)(n c:Nat)(x:Nat):Prop:=∃ xs,SlN .u64 w a n c xs/\Num 18446744073709551616 xs x
theorem Wd.ext{w b:World}{a:Option Addr}{n c x:Nat}(h:Wd w a n c x)(e:Ext w b):Wd b a n c x:=by
 obtain⟨d,h1,h2⟩:=h;exact⟨d,h1.ext e,h2⟩
theorem Wd.len{w:World}{a:Option Addr}{n c x:Nat}(h:Wd w a n c x){k:Nat}(b:x<P2 (64*k)):n<=k:=by
 obtain⟨d,h1,h2⟩:=h;rw[Sj]at b;have:=De h2 b;rw[h1.len]at this;exact this
theorem Wd.nil(w:World):Wd w none 0 0 0:=⟨[],SlN.nil _ _,Num.nil _⟩
theorem Wd.zero(h:Wd w a n c x):n=0<->x=0:=by
 obtain⟨b,h1,h2⟩:=h;constructor
 · intro h0;exact EZ h2 (by rw[h1.len];exact h0)
 · intro h0;have h3:=(W.nrm_zero (B:=18446744073709551616) (by omega) h2.nrm).1 (by rw[h2.val,h0]);rw[<-h1.len,h3];rfl
theorem Wd.one(h:Wd w a 1 c x):∃ b o,a=some ⟨b,o,none⟩/\w.cell? ⟨b,o,none⟩=some (.int .u64 (x:Int))/\x<18446744073709551616/\0<x:=by
 obtain⟨i,h1,h2⟩:=h;obtain⟨e,f,g⟩:=LQ h2 h1.len;obtain⟨b,o,rfl,d⟩:=h1.at (j:=0) (by omega);have:=d 0 (by omega);rw[e,gP]at this;exact⟨b,o,rfl,this,f,g⟩
theorem Wd.big(h:Wd w a n c x)(e:2<=n):18446744073709551616<=x:=by
 obtain⟨d,h1,h2⟩:=h;have b:d≠[]:=by intro h;have:=h1.len;rw[h]at this;simp at this;omega
 have:=W.nrm_pos (B:=18446744073709551616) (by omega) h2.nrm b;rw[h1.len,h2.val]at this;have h3:18446744073709551616^1<=18446744073709551616^(n-1):=oT (by omega) (by omega);omega
def Kd(w:World)(x:Nat)(e:Ending)(w':World):Prop:=∃ a n c,e = .returned (.slice a n c)/\Ext w w'/\Wd w' a n c x
theorem Ib.wd{e:Ending}(h:Ib .u64 18446744073709551616 w x e w'):Kd w x e w':=by
 obtain⟨a,n,c,b,h1,h2,h3,h4⟩:=h;exact⟨a,n,c,h1,h2,b,h3,h4⟩
theorem Uj{y:Nat}(j:AV w)(f:Wd w a n c x)(g:Wd w b m d y)(i:x<P2 9600)(e:y<P2 9600) :
 Calls prog 204 #[.slice a n c,.slice b m d] w (Kd w (Nat.gcd x y)):=by
 have h1:=f.len (k:=150) i;have h2:=g.len (k:=150) e;obtain⟨l,h3,h4⟩:=f;obtain⟨o,h5,h6⟩:=g;exact(LR j h3 h5 h4 h6 h1 h2).mono fun _ _ h=>h.wd
theorem Sk{y:Nat}(f:Wd w a n c x)(g:Wd w b m d y)(i:x<P2 9600)(e:y<P2 9600)(j:x<P2 2496\/y<P2 2496) :
 Calls prog 222 #[.slice a n c,.slice b m d] w (Kd w (x*y)):=by
 have h1:=f.len (k:=150) i;have h2:=g.len (k:=150) e;have h0:n<40\/m<40:=by
  rcases j with h|h
  · left;have:=f.len (k:=39) h;omega
  · right;have:=g.len (k:=39) h;omega
 obtain⟨l,h3,h4⟩:=f;obtain⟨o,h5,h6⟩:=g;exact(Gl h3 h5 h4 h6 (by omega) (by omega) h0).mono fun _ _ h=>h.wd
def AD(w:World)(v:Value)(z:Int):Prop:=∃ s a n c,v = .agg (Ab s a n c).toArray/\Hid (decide (z<0)=s)/\Wd w a n c z.natAbs
theorem AD.ext{w b:World}{v:Value}{z:Int}(h:AD w v z)(e:Ext w b):AD b v z:=by
 obtain⟨s,a,n,c,h1,d,h2⟩:=h;exact⟨s,a,n,c,h1,d,h2.ext e⟩
def D8(w:World)(z:Int)(e:Ending)(w':World):Prop:=∃ s a n c,e = .returned (.agg (Ab s a n c).toArray)/\Ext w w'/\Hid (decide (z<0)=s)/\Wd w' a n c z.natAbs
theorem D8.r{e:Ending}(h:D8 w z e w'):∃ v,e = .returned v/\Ext w w'/\AD w' v z:=by
 obtain⟨s,a,n,c,h1,h2,h3,h4⟩:=h;exact⟨_,h1,h2,s,a,n,c,rfl,h3,h4⟩
theorem Wd.kept{w f:World}{a:Option Addr}{n c x R:Nat}{t:TypeId}{cs:List Value}(h:Wd w a n c x)(e:Arr w R t cs)(d:∀ v∈cs,∀ i,v ≠ .int .u64 i)(k:w.grownBy f (some R)):Wd f a n c x:=by
 obtain⟨l,h1,h2⟩:=h;refine⟨l,?_,h2⟩;rcases oV n with h0|h0
 · subst h0;exact⟨Sl.len h1,Sl.cap h1,Sl.max h1,fun h=>absurd h (mM _)⟩
 · refine h1.kept k (Or.inr fun he => ?_);obtain⟨b,o,rfl,g⟩:=h1.at (j:=0) h0;simp only[blk,jm,oQ]at he;subst he;have h3:=g 0 h0;have h4:w.cell? ⟨b,o+0,none⟩=cs[o+0]?:=by
    unfold Arr at e;simp[World.cell?,e]
   rw[h4]at h3;exact d _ (gY h3) _ rfl
theorem At(s:Bool)(a:Option Addr)(n c:Nat):∀ v∈Ab s a n c,∀ i,v ≠ .int .u64 i:=by
 intro v b i;simp only[Ab,gV,jN,me]at b;rcases b with rfl|rfl <;> simp
theorem Vb{S:Nat->Prop}{y:Nat}(o:Wd w a n c x)(p:Wd w b m d y)(B:x<P2 9600)(r:y<P2 9600)(E:x<P2 2496\/y<P2 2496)(h1:0<n->∀ g,blk a=some g->S g)(h2:0<m->∀ g,blk b=some g->S g) :
 Calls prog 222 #[.slice a n c,.slice b m d] w fun e q=>∃ f i j,e = .returned (.slice f i j)/\Ext w q/\Wd q f i j (x*y)/\Ft w.heap.size S f i:=by
 have J:=o.len (k:=150) B;have K:=p.len (k:=150) r;have G:=o.zero;have H:=p.zero;have h0:n<40\/m<40:=by
  rcases E with h|h
  · left;have:=o.len (k:=39) h;omega
  · right;have:=p.len (k:=39) h;omega
 obtain⟨L,h3,h4⟩:=o;obtain⟨M,h5,h6⟩:=p;refine(Cm h3 h5 h4 h6 (by omega) (by omega) h0).mono ?_;rintro e q ⟨f,i,j,A,rfl,C,v,z,l⟩;refine⟨f,i,j,rfl,C,⟨A,v,z⟩,fun I g D => ?_⟩;have F:Wd q f i j (x*y):=⟨A,v,z⟩;have hp:¬ x*y=0:=fun h=>by have:=F.zero.2 h;omega
 have s:0<n:=by
  rcases oV n with h|h
  · exact absurd (by rw[G.1 h,pw]) hp
  · exact h
 have t:0<m:=by
  rcases oV m with h|h
  · exact absurd (by rw[H.1 h,km]) hp
  · exact h
 rcases l g D with h|h|h
 · exact Or.inl h
 · exact Or.inr (h1 s g h)
 · exact Or.inr (h2 t g h)
def VS(w:World)(a:Option Addr)(n c:Nat)(z:Int)(e:Ending)(w':World):Prop:=∃ s,e = .returned (.agg (Ab s a n c).toArray)/\Ext w w'/\Hid (decide (z<0)=s)/\Wd w' a n c z.natAbs
theorem E0(k:Wd w a n c x){z:Int}(i:z=if neg=true then -(x:Int)else x) :
 Calls prog 203 #[.bool neg,.slice a n c] w (VS w a n c z):=by
 have g:=k.zero;have m:Hid (z.natAbs=x):=by show _=_;rw[i];split <;> omega
 cases neg with
 | true =>
  have j:Hid (decide (z<0)=decide (0<n)):=by show _=_;rw[i,pq rfl];apply jL.2;omega
  clear g i
  go_enter func203,ntmps203
  go_upto_region 1 with(fail)
  refine AM ?_;intro o b e l
  go_wp2_with(refine Aa (vs:=Ab _ a n c) rfl rfl rfl rfl rfl Ak e rfl (Ad _ _ _ _) ?_;intro p f d)
  refine oM (v := .agg (Ab (decide (0<n)) a n c).toArray) (Ai rfl Ak rfl f) rfl ⟨_,rfl,b.grownR d (lrf _),j,by rw[m.out];exact k.ext (b.grownR d (lrf _))⟩
 | false =>
  have j:Hid (decide (z<0)=false):=by show _=_;rw[i,pf (by simp)];simp
  clear g i
  go_enter func203,ntmps203
  go_upto_region 1 with(fail)
  refine AM ?_;intro o b e l
  go_wp2_with(refine Aa (vs:=Ab _ a n c) rfl rfl rfl rfl rfl Ak e rfl (Ad _ _ _ _) ?_;intro p f d)
  refine oM (v := .agg (Ab false a n c).toArray) (Ai rfl Ak rfl f) rfl ⟨_,rfl,b.grownR d (lrf _),j,by rw[m.out];exact k.ext (b.grownR d (lrf _))⟩
theorem Bw(b:Wd w a n c x){z:Int}(d:z=if neg=true then -(x:Int)else x) :
 Calls prog 203 #[.bool neg,.slice a n c] w (D8 w z) :=
 (E0 b d).mono fun _ _ ⟨s,h1,h2,h3,h4⟩=>⟨s,a,n,c,h1,h2,h3,h4⟩
theorem QD{r:Option Nat}(h:w.grownBy w1 r)(k:w1.grownBy w2 (some g))(d:w.heap.size<=g):w.grownBy w2 r :=
 ⟨k.os.trans h.os,k.tape.trans h.tape,k.output.trans h.output,oS h.size k.size,fun b c a=>by
  rw[k.block b (ph c h.size) (by intro he;simp only[oQ]at he;omega),h.block b c a]⟩
structure Tot(w:World)(a:Option Addr)(base:Nat)(wr:World)(a':Option Addr)(n c:Nat)(zs:List Nat):Prop where
 grown:w.grownBy wr (blk a)
 own:Own wr base 238 a' n c (zs.map (Bt .u64))
 src:blk a'=blk a\/∃ g,blk a'=some g/\w.heap.size<=g
 bnd:W.bnd 18446744073709551616 zs
section
variable {w wr w2:World} {a a' a2:Option Addr} {base n c n2 c2:Nat} {zs zs2:List Nat}
theorem Tot.len(h:Tot w a base wr a' n c zs):zs.length=n:=by have:=h.own.len;simpa using this
theorem Tot.step(h:Tot w a base wr a' n c zs)(b:wr.grownBy w2 (blk a'))(j:Own w2 base 238 a2 n2 c2 (zs2.map (Bt .u64)))(k:blk a2=blk a'\/blk a2=some wr.heap.size)(i:W.bnd 18446744073709551616 zs2):Tot w a base w2 a2 n2 c2 zs2:=by
 have d:w.grownBy w2 (blk a):=by
  rcases h.src with e|⟨g,e,f⟩
  · rw[e]at b;exact IK h.grown b
  · rw[e]at b;exact QD h.grown b f
 refine⟨d,j,?_,i⟩;rcases k with e|e
 · rw[e];exact h.src
 · exact Or.inr ⟨_,e,h.grown.size⟩
theorem Tot.ext(h:Tot w a base wr a' n c zs)(e:Ext wr w2):Tot w a base w2 a' n c zs:=⟨GK h.grown e,h.own.ext e,h.src,h.bnd⟩
theorem Tot.slice(h:Tot w a base wr a' n c zs)(d:SlN .u64 w ax nx cx xs)(b:blk ax≠blk a):SlN .u64 wr ax nx cx xs:=d.kept h.grown (Or.inr b)
theorem Tot.sep(h:Tot w a base wr a' n c zs)(i:SlN .u64 w ax nx cx xs)(h0:0<nx)(d:blk ax≠blk a){g:Nat}(f:blk a'=some g):blk ax≠some g:=by
 rcases h.src with e|⟨j,e,b⟩
 · rw[<-f,e];exact d
 · rw[f]at e;simp only[oQ]at e;subst e;exact i.fresh b h0
end
def MZ:Value->Nat | .slice _ n _=>n | _=>0
theorem Sm{S wd cy:Nat}(a:W.val B zs=V+X*S)(h:W.val B zs'+cy*B^(i+n)=W.val B zs+wd*X*B^i):W.val B zs'+cy*B^(i+n)=V+X*(S+B^i*wd):=by
 rw[h,a];generalize B^i=p
 grind
def Wo(w:World)(a:Option Addr)(base n m V:Nat)(e:Ending)(w':World):Prop :=
 ∃ a' n' c' zs,e = .returned (.slice a' n' c')/\Tot w a base w' a' n' c' zs/\W.val 18446744073709551616 zs=V/\n'<=max n m+40
theorem E5{H J Y:Nat}(hO:Own w base 238 a n c (zs.map (Bt .u64)))(bz:W.bnd 18446744073709551616 zs)(hV:W.val 18446744073709551616 zs=V)(Q:SlN .u64 w ax nx cx xs)(hy:SlN .u64 w ay H J ys)(nX:Num 18446744073709551616 xs X)(nY:Num 18446744073709551616 ys Y)(a9:0<nx)(aa:0<H)(z:blk ax≠blk a)(A:blk ay≠blk a)(h40:nx<40\/H<40)(bx:nx<=100000)(aU:H<=100000)(bn:n<=1000000000)(hb:base<=w.heap.size) :
 Calls prog 263 #[.slice a n c,.slice ax nx cx,.slice ay H J] w (Wo w a base n (nx+H) (V+X*Y)):=by
 have HX:=qh Q.len;have HY:=qh hy.len;have NX:=qh nX;have NY:=qh nY;have HV:=qh hV;clear nX nY hV;by_cases hs:nx<H
 case' pos =>
  rw[ju nx H,oU X Y]
  go_enter func263,ntmps263
  go_wp2;have a3:=hy;have ad:=Q;have a6:=NY;have a7:=NX;have I:=HX;have a8:=A;have af:=z;have ag:=aa;clear Q hy NX NY HX HY z A a9 aa;obtain⟨al,rfl⟩:∃ q,q=ay:=⟨_,rfl⟩;obtain⟨r,rfl⟩:∃ q,q=H:=⟨_,rfl⟩;obtain⟨cl,rfl⟩:∃ q,q=J:=⟨_,rfl⟩;obtain⟨xl,rfl⟩:∃ q,q=ys:=⟨_,rfl⟩;obtain⟨XL,rfl⟩:∃ q,q=Y:=⟨_,rfl⟩;obtain⟨ah,rfl⟩:∃ q,q=ax:=⟨_,rfl⟩;obtain⟨y,rfl⟩:∃ q,q=nx:=⟨_,rfl⟩;obtain⟨ch,rfl⟩:∃ q,q=cx:=⟨_,rfl⟩;obtain⟨xh,rfl⟩:∃ q,q=xs:=⟨_,rfl⟩;obtain⟨XH,rfl⟩:∃ q,q=X:=⟨_,rfl⟩
 case' neg =>
  go_enter func263,ntmps263
  go_wp2;have a3:=Q;have ad:=hy;have a6:=NX;have a7:=NY;have I:=HY;have a8:=z;have af:=A;have ag:=a9;clear Q hy NX NY HX HY z A a9 aa;obtain⟨al,rfl⟩:∃ q,q=ax:=⟨_,rfl⟩;obtain⟨r,rfl⟩:∃ q,q=nx:=⟨_,rfl⟩;obtain⟨cl,rfl⟩:∃ q,q=cx:=⟨_,rfl⟩;obtain⟨xl,rfl⟩:∃ q,q=xs:=⟨_,rfl⟩;obtain⟨XL,rfl⟩:∃ q,q=X:=⟨_,rfl⟩;obtain⟨ah,rfl⟩:∃ q,q=ay:=⟨_,rfl⟩;obtain⟨y,rfl⟩:∃ q,q=H:=⟨_,rfl⟩;obtain⟨ch,rfl⟩:∃ q,q=J:=⟨_,rfl⟩;obtain⟨xh,rfl⟩:∃ q,q=ys:=⟨_,rfl⟩;obtain⟨XH,rfl⟩:∃ q,q=Y:=⟨_,rfl⟩
 all_goals
  go_loopw[0] (fun R wr=>∃ (S:Option Addr) (v c':Nat) (t:List Nat),R = .slice S v c'/\Tot w a base wr S v c' t/\v<=max n (r+y)/\Hid (W.val 18446744073709551616 t=V)) (fun R _=>r+y-MZ R)
  case atStart=>exact⟨a,n,c,zs,rfl,⟨CK _ _,hO,Or.inl rfl,bz⟩,by omega,HV⟩
  case round =>
   obtain⟨a1,n1,c1,aD,rfl,m,aP,U⟩:=hrel;have aw:=m.grown.size;by_cases E:n1<r+y
   · have hA:=(Ext.refl wr).alloc (.cells #[.int .u64 0] 238);have D:=m.ext hA;have K:=D.own;have L:=(Ay wr base 238 #[.int .u64 0] 1 rfl (by omega) (by omega)).sl
     go_wp2_with(refine BB rfl rfl underlying81 AF rfl rfl K rfl L (by simp[Value.oneCell']) (by unfold maxLen;omega) (by omega) (by simp;omega) ?_;intro a2 G w2 aK O aL)
     go_roundw
     case rel =>
      refine⟨a2,n1+1,G,aD ++ [0],rfl,D.step O (by rw[im];exact aK) aL (W.bnd_app m.bnd (by intro x Q;simp at Q;omega)),by omega,qh ?_⟩;rw[W.val_snoc,U.out,km,gP]
     case measure=>simp[MZ];omega
   · obtain⟨wo,rfl⟩:∃ x:World,x=wr:=⟨_,rfl⟩;clear aw;have aH:n1=max n (r+y)\/n1=n1:=Or.inr rfl;clear aH;go_wp2
     go_loopw[0,38] (fun R iv wr=>∃ (i:Nat) (S:Option Addr) (v c':Nat) (t:List Nat),R = .slice S v c'/\iv = .int .i64 i/\i<=y/\Tot w a base wr S v c' t/\r+y<=v/\v<=max n (r+y)+i/\Hid (W.val 18446744073709551616 t=V+XL*W.val 18446744073709551616 (xh.take i))) (fun _ iv _=>y-(intOf iv).toNat)
     case atStart=>exact⟨0,a1,n1,c1,aD,rfl,rfl,oY _,m,by omega,by omega,qh (by rw[U.out];simp[W.val])⟩
     case round =>
      clear m aP U E;obtain⟨i,a2,n2,G,zs2,rfl,rfl,hi,m,au,ar,Z⟩:=hrel;by_cases E:i<y
      · obtain⟨g,rfl,aM,aN⟩:=m.own.place (by omega);have aA:=m.slice ad af;obtain⟨b9,o9,e9,an⟩:=aA.at (j:=i) E;subst e9;have g9:=an i E;have aR:=W.bnd_at a7.out.bnd (i:=i) (by rw[I.out];exact E);have aI:=qh (W.val_take_succ (B:=18446744073709551616) (xs:=xh) (i:=i) (by rw[I.out];exact E))
        have aQ:∀ C:World,(Instr.sliceAt 81 (.slice (some ⟨g,0,none⟩) n2 G) (some (.int .i64 i)) (some (.int .i64 ((i:Int)+r))) none).run prog C = .ok (.slice (some ⟨g,i,none⟩) r (G-i)) C:=fun C=>by
         have aS:=m.own.cap;have:=Cg (P:=prog) (w:=C) (g:=g) (n:=n2) (c:=G) (lo:=i) (hi:=i+r) underlying81 AF (by omega) (by omega) (by omega);rw[l4,gK]at this;exact this
        have aY:IntKind.i64.wrap ((i:Int)+r)=(i:Int)+r:=oP _ (by omega);have p:Av .u64 wr base 238 g n2 G zs2:=m.own;have hp:=Dq (w:=wr) (o:=i) (c':=G-i) p (m.slice a3 a8) (Or.inr (m.sep a3 ag a8 rfl)) (by omega) m.bnd a6.out.bnd aR;have aJ:=qh a6.out.val;generalize xh.getD i 0=wd at *
        clear an
        go_upto_region 11 with(fail)
        refine hp.mono ?_;rintro e w2 ⟨f,ab,rfl,N,O,aC,ae,az,aO⟩;have aj:Tot w a base w2 (some ⟨g,0,none⟩) n2 G ab:=m.step O aC (Or.inl rfl) ae;have ac:Hid (W.val 18446744073709551616 ab+f*18446744073709551616^(i+r)=V+XL*W.val 18446744073709551616 (xh.take (i+1))):=qh (by rw[aI.out];exact Sm Z.out (by rw[<-aJ.out];exact az));clear hp aQ az aO aC O ae p Z m g9 aA;go_wp2
        go_loopw[0,9,10] (fun R cv kv wr=>∃ (k f:Nat) (S:Option Addr) (v c':Nat) (t:List Nat),R = .slice S v c'/\cv = .int .u64 f/\kv = .int .i64 k/\f<18446744073709551616/\k<=v/\Tot w a base wr S v c' t/\r+y<=v/\(v<=max n (r+y)+i\/(v<=max n (r+y)+i+1/\f=0))/\Hid (W.val 18446744073709551616 t+f*18446744073709551616^k=V+XL*W.val 18446744073709551616 (xh.take (i+1)))) (fun R cv kv _=>MZ R-(intOf kv).toNat+min 1 (intOf cv).toNat)
        case atStart=>exact⟨i+r,f,_,n2,G,ab,rfl,rfl,by go_num,N,by omega,aj,au,Or.inl ar,ac⟩
        case round =>
         clear aj ac au ar N aM aN;obtain⟨k,f,a4,n4,c4,d,rfl,rfl,rfl,N,hk,m,av,aX,a0⟩:=hrel;by_cases am:f=0
         · subst am;go_wp2;go_roundw
           case rel=>exact⟨i+1,a4,n4,c4,d,rfl,by go_num,by omega,m,av,by omega,qh (by have:=a0.out;rw[pw,gP]at this;exact this)⟩
           case measure=>simp[intOf];omega
         · have aG:n4<=max n (r+y)+i:=by omega
           have aT:((f:Int) != 0)=true:=IX (b:=0) am;have aW:¬ ((f:Int)=0):=by omega
           have aw:=m.grown.size;by_cases ap:k=n4
           · subst ap;have hA:=(Ext.refl wr).alloc (.cells #[.int .u64 0] 238);have D:=m.ext hA;have K:=D.own;have L:=(Ay wr base 238 #[.int .u64 0] 1 rfl (by omega) (by omega)).sl
             go_upto_region 16 with(refine BB rfl rfl underlying81 AF rfl rfl K rfl L (by simp[Value.oneCell']) (by unfold maxLen;omega) (by omega) (by simp;omega) ?_;intro a5 c5 w5 ai ao ak)
             have M:Tot w a base w5 a5 (k+1) c5 (d ++ [0]):=D.step ao (by rw[im];exact ai) ak (W.bnd_app m.bnd (by intro x Q;simp at Q;omega));have aq:=m.len;clear ai ao ak L K D hA m;obtain⟨g5,rfl,aE,aF⟩:=M.own.place (by omega);have p:Av .u64 w5 base 238 g5 (k+1) c5 (d ++ [0]):=M.own;have q2:=p.cell (i:=k) (by omega);have q3:=p.frozen k;have aB:(d ++ [0]).getD k 0=0:=by rw[gqq,gN (by omega),aq,jt];rfl
             rw[aB]at q2;have T:∀ C:World,(callFunc 300 #[.int .u64 0,.int .u64 (f:Int),.int .u64 0]).run prog C = .ok (.value (.tuple #[.int .u64 (((0+f+0)%18446744073709551616:Nat):Int),.int .u64 (((0+f+0)/18446744073709551616:Nat):Int)])) C:=fun C=>Ca 0 f 0 (by omega) C;have e1:(0+f+0)%18446744073709551616=f:=by omega
             have e2:(0+f+0)/18446744073709551616=0:=by omega
             rw[e1,e2]at T;have HS:=qh (W.add_step0 (B:=18446744073709551616) (l:=d ++ [0]) (k:=k) (s:=f) (c':=0) (V:=V+XL*W.val 18446744073709551616 (xh.take (i+1))) (c:=f) (by simp[aq]) (by rw[W.val_snoc,km,gP];exact a0.out) (by rw[aB];omega));go_wp2;go_roundw
             case rel=>exact⟨k+1,0,_,k+1,c5,_,rfl,rfl,by go_num,by omega,by omega,M.step (Am w5 g5 k (.int .u64 (f:Int))) (p.set k f) (Or.inl rfl) (W.bnd_set M.bnd N),by omega,Or.inr ⟨by omega,rfl⟩,HS⟩
             case measure =>
              simp only[MZ,intOf];omega
           · have F:k<n4:=by omega
             have aV:((k:Int) == n4)=false:=IY ap;obtain⟨g5,rfl,aE,aF⟩:=m.own.place (by omega);have p:Av .u64 wr base 238 g5 n4 c4 d:=m.own;have q2:=p.cell (i:=k) F;have q3:=p.frozen k;have aZ:=W.bnd_at m.bnd (i:=k) (by rw[m.len];exact F);have HS:=qh (W.add_step0 (B:=18446744073709551616) (l:=d) (k:=k) (s:=(d.getD k 0+f+0)%18446744073709551616) (c':=(d.getD k 0+f+0)/18446744073709551616) (by rw[m.len];exact F) a0.out (by rw[UD];omega))
             have T:∀ C:World,(callFunc 300 #[.int .u64 ((d.getD k 0:Nat):Int),.int .u64 (f:Int),.int .u64 0]).run prog C = .ok (.value (.tuple #[.int .u64 (((d.getD k 0+f+0)%18446744073709551616:Nat):Int),.int .u64 (((d.getD k 0+f+0)/18446744073709551616:Nat):Int)])) C:=fun C=>Ca (d.getD k 0) f 0 (by omega) C;have hs:(d.getD k 0+f+0)%18446744073709551616<18446744073709551616:=gE _ (by omega);have hC:(d.getD k 0+f+0)/18446744073709551616<18446744073709551616:=by omega
             generalize (d.getD k 0+f+0)%18446744073709551616=s at *
             generalize (d.getD k 0+f+0)/18446744073709551616=cc at *
             generalize d.getD k 0=u at *
             go_wp2;go_roundw
             case rel=>exact⟨k+1,cc,_,n4,c4,d.set k s,rfl,rfl,by go_num,hC,by omega,m.step (zs2:=d.set k s) (Am wr g5 k (.int .u64 (s:Int))) (p.set k s) (Or.inl rfl) (W.bnd_set m.bnd hs),av,Or.inl aG,HS⟩
             case measure =>
              simp only[MZ,intOf];omega
      · have ei:i=y:=by omega
        subst ei;go_wp2;go_ret;refine⟨a2,n2,G,zs2,rfl,m,?_,by omega⟩;rw[Z.out,oL (by rw[I.out];exact lrf _),a7.out.val]
def Dx(j:Nat)(o:Oper):Oper:={ o with after:=o.after.push { on:=j,ground := .data } }
theorem H4(j:Nat)(o:Oper)(d:Operand->Value):execOp d (Dx j o)=execOp d o:=by
 obtain⟨e,f,c,g,a,b⟩:=o;cases f <;> rfl
section
variable {P:Program} {Q:Exit->Act->World->Prop}
theorem Gv(l:List Oper)(m j:Nat):(l.modify m (Dx 0)).toArray[j]?=(l.toArray[j]?).map (fun o=>if m=j then Dx 0 o else o):=by
 simp only[lZ,List.getElem?_modify];cases l[j]? with
 | none=>rfl
 | some o=>by_cases h:m=j <;> simp[h]
theorem FQ{L:Array Bool}(h0:L.getD 0 false=true):j∈Region.ready .any (l.modify m (Dx 0)).toArray L<->j∈Region.ready .any l.toArray L:=by
 rw[nG,nG,Gv];constructor
 · rintro⟨h1,o,b,a⟩;cases d:l.toArray[j]? with
   | none=>rw[d]at b;cases b
   | some o' =>
    rw[d]at b;simp only[jm,oQ]at b;refine⟨h1,o',rfl,fun e he c=>a e ?_ c⟩;rw[<-b];split
    · exact Array.mem_push_of_mem _ he
    · exact he
 · rintro⟨h1,o,b,a⟩;rw[b];refine⟨h1,_,rfl,fun e he c => ?_⟩;split at he
   · rcases Array.mem_push.1 he with he|he
     · exact a e he c
     · rw[he];exact h0
   · exact a e he c
theorem LS(l:List Oper)(m:Nat)(t:Array Value):yielded (l.modify m (Dx 0)).toArray t=yielded l.toArray t:=by
 funext g;unfold yielded;rw[Gv];cases l.toArray[g]? with
 | none=>rfl
 | some o=>by_cases h:m=g <;> simp[h,Dx]
theorem QE{K:Act->World->Prop}{a:Act}(h:wpOp P (l.modify m (Dx 0)).toArray Q i K a w):wpOp P l.toArray Q i K a w:=by
 unfold wpOp at *
 rw[Gv]at h;cases c:l.toArray[i]? with
 | none=>rw[c]at h;exact h
 | some o =>
  rw[c]at h;simp only[jm,LS]at h;by_cases b:m=i
  · simp only[pq b]at h;have d:Region.wanted (Dx 0 o) (yielded l.toArray a.tmps)=Region.wanted o (yielded l.toArray a.tmps):=rfl;have e:Oper.wp P (Dx 0 o) a w K Q=Oper.wp P o a w K Q:=by unfold Oper.wp;rw[H4];rfl
    have f:Oper.asks P (Dx 0 o) a w=Oper.asks P o a w:=by unfold Oper.asks;rw[H4]
    rw[d,e,f]at h;exact h
  · simp only[pf b]at h;exact h
theorem JA{l:List Oper}{m:Nat}:∀ (f:Nat) (L:Array Bool) (a:Act) (w:World),L.getD 0 false=true->wpAny P .any (l.modify m (Dx 0)).toArray Q f L a w->wpAny P .any l.toArray Q f L a w
 | 0,L,a,w,h0,h=>by
  refine⟨?_,h.2⟩;refine nQ.2 fun j b => ?_;have:=(FQ (m:=m) h0).2 b;rw[h.1]at this;cases this
 | f+1,L,a,w,h0,h=>by
  refine⟨fun g=>h.1 (nQ.2 fun j b => ?_),fun i e => ?_⟩
  · have:=(FQ h0).1 b;rw[g]at this;cases this
  · exact wpOp_mono (fun c k d=>JA f _ c k (kA h0) d) (QE (h.2 i ((FQ h0).2 e)))
def VT:Op->Bool | .select _ _=>true | _=>false
def Pr(ops:Array Oper):Bool :=
 (match ops[0]? with
  | some o=>(match o.op with | .move _=>true | _=>false) && o.guard.isNone && o.after.isEmpty && (List.range ops.size).all (fun j=>j == 0 || (match ops[j]? with | some oj=>oj.after.any (fun e=>Region.binds .any e && e.on == 0) || o.apart ops oj | none=>true))
  | none=>false) && (List.range ops.size).all (fun j=>match ops[j]? with | some o => !VT o.op | none=>true)
theorem D9{id:Nat}{a:Act}(m:Nat)(J:m≠0)(Z:P.follows .mixedOrders=true)(C:World->Prop)(n:List Hd)
 (L:Cc (l.modify m (Dx 0)).toArray (n.map (·.cons)) a.tmps.size=true) (f:Pr l.toArray=true)
 (W:∀ c a w d v,Q (.panic c) (Act.put a d v) w->Q (.panic c) a w)
 (E:∀ w p,Ext w p->C w->C p) (V:C w.drew) (O:Fw n)
 (B:J6 P C (l.modify m (Dx 0)).toArray n a 0 (l.modify m (Dx 0)) n)
 (r:∀ p,C p->DA p (fun U=>wpList P (l.modify m (Dx 0)).toArray Q ((l.modify m (Dx 0)).drop n.length) U p) (l.modify m (Dx 0)) n a):(Code.region id l.toArray true).wp P Q a w:=by
 have h:=Gu (P:=P) (Q:=Q) C n L E V O B r;refine oA Z ?_;unfold Pr at f;simp only[iH]at f;obtain⟨h1,h2⟩:=f;cases h0:l.toArray[0]? with
 | none=>rw[h0]at h1;cases h1
 | some o =>
  rw[h0]at h1;simp only[iH]at h1;obtain⟨⟨⟨z,I⟩,F⟩,G⟩:=h1;obtain⟨x,R⟩:∃ x,o.op = .move x:=by
   cases M:o.op <;> rw[M]at z <;> first | exact⟨_,rfl⟩ | cases z
  have s:o.guard=none:=by simpa using I
  have q:o.after=#[]:=by simpa using F
  have a0:0<l.toArray.size:=(gW.1 h0).1;have y:(l.modify m (Dx 0)).toArray.size=l.toArray.size:=by simp
  rw[y]at h;obtain⟨k,Y⟩:∃ k,l.toArray.size=k+1:=⟨l.toArray.size-1,by omega⟩;rw[Y]at h |-;have hy:Yields P l.toArray o (a.eval x) a:=Or.inl ⟨by simp[Region.wanted,s],fun w=>by simp only[execOp,R];rfl⟩;have hr:0∈Region.ready .any l.toArray (Array.replicate (k+1) false):=by
   rw[nG];refine⟨by simp,o,h0,fun e he => ?_⟩;rw[q]at he;simp at he
  have D:∀ (j:Nat) (o:Oper) S b,l.toArray[j]?=some o->o.op ≠ .select S b:=by
   intro j oj S b t X;have g:j<l.toArray.size:=(gW.1 t).1;have:=j9.1 h2 j (lW.2 g);rw[t]at this;simp[X,VT]at this
  refine wpAny_first (i:=0) (oi:=o) (v:=a.eval x) h0 D (fun c a w=>W c a w _ _) k _ a _ ?_ hr hy ?_
  · intro j oj t K _ A;have g:j<l.toArray.size:=(gW.1 t).1;have:=j9.1 G j (lW.2 g);rw[t]at this;simp only[lS,nj]at this;rcases this with h|h|h
    · exact absurd h K
    · obtain⟨e,he,H⟩:=Array.any_eq_true'.1 h;simp only[iH,nj]at H;exact absurd H.2 (A e he H.1)
    · exact h
  · refine JA (m:=m) k _ _ _ (by simp) ?_;have T:(l.modify m (Dx 0)).toArray[0]?=some o:=by rw[Gv,h0];simp[J]
    have N:0∈Region.ready .any (l.modify m (Dx 0)).toArray (Array.replicate (k+1) false):=by
     rw[nG];refine⟨by simp,o,T,fun e he => ?_⟩;rw[q]at he;simp at he
    have h3:=h.2 0 N;unfold wpOp at h3;rw[T]at h3;simp only at h3;rw[pq (by simp[Region.wanted,s])]at h3;rcases h3 with h3|h3
    · simp only[Oper.wp,execOp,R]at h3;exact h3
    · exfalso;have:=h3.1;simp only[Oper.asks,execOp,R]at this;exact absurd (show noRoomEvent∈(#[]:Array Event) from this.1) (by simp)
end
theorem VU{y:Nat}(f:Wd w a n c x)(g:Wd w b m d y)(i:x<P2 9600)(e:y<P2 9600) :
 Calls prog 255 #[.slice a n c,.slice b m d] w (Kd w (x+y)):=by
 have h1:=f.len (k:=150) i;have h2:=g.len (k:=150) e;obtain⟨j,h3,h4⟩:=f;obtain⟨l,h5,h6⟩:=g;exact(LJ h3 h5 h4 h6 (by omega) (by omega)).mono fun _ _ h=>h.wd
theorem Uk{y:Nat}(f:Wd w a n c x)(i:Wd w b m d y)(g:x<P2 9600)(e:y<=x) :
 Calls prog 256 #[.slice a n c,.slice b m d] w (Kd w (x-y)):=by
 have h1:=f.len (k:=150) g;obtain⟨j,h3,h4⟩:=f;obtain⟨l,h5,h6⟩:=i;exact(Gk h3 h5 h4 h6 (by omega) e).mono fun _ _ h=>h.wd
theorem Ul{y:Nat}(f:Wd w a n c x)(g:Wd w b m d y) :
 Calls prog 232 #[.slice a n c,.slice b m d] w fun e i=>e = .returned (.int .i64 (AW x y))/\Qt w i:=by
 obtain⟨j,h3,h4⟩:=f;obtain⟨k,h5,h6⟩:=g;exact Bh h3 h5 h4 h6
def VV(w:World)(q r:Nat)(e:Ending)(w':World):Prop:=∃ a n c a' n' c',e = .returned (.tuple #[.slice a n c,.slice a' n' c'])/\Ext w w'/\Wd w' a n c q/\Wd w' a' n' c' r/\Ft w.heap.size (fun _=>False) a n
theorem Um{y:Nat}(l:Wd w a n c x)(o:Wd w b m d y)(r:x<P2 9600)(g:y<P2 9600)(h0:0<y) :
 Calls prog 240 #[.slice a n c,.slice b m d] w (VV w (x/y) (x%y)):=by
 have h1:=l.len (k:=150) r;have h2:=o.len (k:=150) g;obtain⟨F,h3,h4⟩:=l;obtain⟨G,h5,h6⟩:=o;refine(C7 h3 h5 h4 h6 (by omega) (by omega) h0 (by omega)).mono ?_;rintro e E ⟨p,B,s,i,q,C,t,j,rfl,v,s1,z,D,A,f⟩;exact⟨p,B,s,q,C,t,rfl,v,⟨i,s1,z⟩,⟨j,D,A⟩,f⟩
def JB(w:World)(S:Nat->Prop)(z:Int)(e:Ending)(w':World):Prop:=∃ s a n c,e = .returned (.agg (Ab s a n c).toArray)/\Ext w w'/\Hid (decide (z<0)=s)/\Wd w' a n c z.natAbs/\Ft w.heap.size S a n
theorem JB.plain{S:Nat->Prop}{e:Ending}(h:JB w S z e w'):D8 w z e w':=by
 obtain⟨s,a,n,c,h1,h2,h3,h4,_⟩:=h;exact⟨s,a,n,c,h1,h2,h3,h4⟩
def Hb(S:Nat->Prop)(v:Value):Prop:=∀ s a n c,v = .agg (Ab s a n c).toArray->0<n->∀ g,blk a=some g->S g
theorem Hb.at{S:Nat->Prop}(h:Hb S (.agg (Ab s a n c).toArray)):0<n->∀ g,blk a=some g->S g:=h s a n c rfl
theorem ID{S:Nat->Prop}(h:0<n->∀ g,blk a=some g->S g):Hb S (.agg (Ab s a n c).toArray):=by
 intro i b f d e;simp only[Ab,Value.agg.injEq,Array.mk.injEq,kX,pA,pk,iY]at e;obtain⟨_,rfl,rfl,rfl⟩:=e;exact h
theorem Un(a:x<18446744073709551616):Calls prog 217 #[.int .u64 x] w (Kd w x):=(El a).mono fun _ _ h=>h.wd
theorem E6{S:Nat->Prop}(f:Ext w w1)(g:Arr w1 R t cs)(b:∀ v∈cs,∀ i,v ≠ .int .u64 i)(d:w1.grownBy w9 (some R))(k:w.heap.size<=R)(e:Hid (decide (z<0)=s))(l:Wd w1 a n c z.natAbs)(j:Ft w.heap.size S a n):JB w S z (.returned (.agg (Ab s a n c).toArray)) w9 :=
 ⟨s,a,n,c,rfl,f.grownR d k,e,l.kept g b d,j⟩
theorem Bn(f:Ext w w1)(g:Arr w1 R t cs)(b:∀ v∈cs,∀ i,v ≠ .int .u64 i)(d:w1.grownBy w9 (some R))(j:w.heap.size<=R)(e:Hid (decide (z<0)=s))(k:Wd w1 a n c z.natAbs):D8 w z (.returned (.agg (Ab s a n c).toArray)) w9 :=
 ⟨s,a,n,c,rfl,f.grownR d j,e,k.kept g b d⟩
theorem IE(h:AD w v z):Calls prog 140 #[v] w (D8 w (-z)):=by
 obtain⟨s,a,n,c,rfl,q,y⟩:=h
 go_enter func140,ntmps140
 go_upto_region 1 with(fail)
 refine Ch ?_;intro D d b j p;have B:=b.c 0 rfl;have C:=b.c 1 rfl;have m:=qh (Bw (neg := !s) (y.ext d) (z := -z) (by rw[<-q.out];by_cases h:z<0 <;> simp[h] <;> omega));have x:Arr D (w.heap.size+1) 83 (Ab false none 0 0):=j;clear p
 go_wp2_with fail
 refine m.out.mono ?_;rintro e E ⟨s1,r,A,t,rfl,f,i,o⟩;have g:=x.ext f
 go_wp2_with(refine Aa (vs:=Ab s1 r A t) rfl rfl rfl rfl rfl Ak g rfl (Ad _ _ _ _) ?_;intro F k l)
 exact oM (Ai rfl Ak rfl k) rfl (Bn (d.trans f) g (At _ _ _ _) l (by omega) i o)
theorem Az(h:AD w v z){r:Bool}(f:decide (z=0)=r):Calls prog 162 #[v] w fun e m=>e = .returned (.bool r)/\Ext w m:=by
 obtain⟨s,a,n,c,rfl,o,i⟩:=h;have g:((n:Int) == 0)=r:=by
  have:=i.zero;rw[<-f,oq];simp;omega
 clear f
 go_enter func162,ntmps162
 go_upto_region 1 with(fail)
 refine AM ?_;intro p d b j;have k:=b.c 0 rfl;have l:=b.c 1 rfl;go_wp2;go_ret;exact⟨rfl,d⟩
theorem JC(h:AD w v z){r:Int}(g:z.sign=r):Calls prog 198 #[v] w fun e y=>e = .returned (.int .i64 r)/\Ext w y:=by
 obtain⟨s,a,n,c,rfl,o,x⟩:=h;have f:=x.zero;by_cases h0:z=0
 · have q:n=0:=f.2 (by omega);have i:Hid (r=0):=by show _=_;rw[<-g,h0];rfl
   subst q;clear g h0 f
   go_enter func198,ntmps198
   go_upto_region 1 with(fail)
   refine AM ?_;intro p d b j;have k:=b.c 0 rfl;have l:=b.c 1 rfl;go_wp2;go_ret;exact⟨by rw[i.out];rfl,d⟩
 · have t:((n:Int) == 0)=false:=by
    have:n≠0:=fun h=>h0 (by have:=f.1 h;omega);simpa using this
   clear f;cases s with
   | true =>
    have m:z<0:=by simpa using o.out
    have i:Hid (r = -1):=by show _=_;rw[<-g,jX m]
    clear g h0 m
    go_enter func198,ntmps198
    go_upto_region 1 with(fail)
    refine AM ?_;intro p d b j;have k:=b.c 0 rfl;have l:=b.c 1 rfl;go_wp2;go_ret;exact⟨by rw[i.out];rfl,d⟩
   | false =>
    have m:¬ z<0:=by simpa using o.out
    have i:Hid (r=1):=by show _=_;rw[<-g,jI (by omega)]
    clear g h0 m
    go_enter func198,ntmps198
    go_upto_region 1 with(fail)
    refine AM ?_;intro p d b j;have k:=b.c 0 rfl;have l:=b.c 1 rfl;go_wp2;go_ret;exact⟨by rw[i.out];rfl,d⟩
theorem Cw(h:AD w v z){r:Bool}(i:decide (z=1)=r):Calls prog 142 #[v] w fun e F=>e = .returned (.bool r)/\Ext w F:=by
 obtain⟨s,a,n,c,rfl,t,q⟩:=h;cases s with
 | true =>
  have m:z<0:=by simpa using t.out
  have p:Hid (r=false):=by show _=_;rw[<-i];simp;omega
  clear i m
  go_enter func142,ntmps142
  go_upto_region 1 with(fail)
  refine AM ?_;intro B f d g;have j:=d.c 0 rfl;have l:=d.c 1 rfl;go_wp2;go_ret;exact⟨by rw[p.out];rfl,f⟩
 | false =>
  have m:¬ z<0:=by simpa using t.out
  by_cases A:n=1
  · subst A;obtain⟨b,o,rfl,y,G,H⟩:=q.one;have E:((z.natAbs:Int) == 1)=r:=by
     rw[<-i,oq];simp;omega
    clear i m;generalize z.natAbs=x at *
    go_enter func142,ntmps142
    go_upto_region 1 with(fail)
    refine AM ?_;intro B f d g;have j:=d.c 0 rfl;have l:=d.c 1 rfl;have C:=f.cell y;clear g y;go_wp2;go_ret;exact⟨rfl,f⟩
  · have D:((n:Int) == 1)=false:=by simp;omega
    have p:Hid (r=false):=by
     show _=_;rw[<-i];have h1:z≠1:=by
      intro h1;have h2:=q.len (k:=1) (by rw[h1,Sj];decide);have h3:=q.zero;omega
     simp[h1]
    clear i m A
    go_enter func142,ntmps142
    go_upto_region 1 with(fail)
    refine AM ?_;intro B f d g;have j:=d.c 0 rfl;have l:=d.c 1 rfl;go_wp2;go_ret;exact⟨by rw[p.out];rfl,f⟩
theorem LT(h1 : -9223372036854775808<=z)(h2:z<=9223372036854775807):Calls prog 156 #[.int .i64 z] w (D8 w z):=by
 by_cases r:z<0
 · have k:Hid (decide (z<0)=true):=qh (by simpa using r);have s:IntKind.u64.wrap (-IntKind.u64.wrap z)=(z.natAbs:Int):=by rw[jq,jq];omega
   have o:z.natAbs<18446744073709551616:=by omega
   go_enter func156,ntmps156
   go_upto_region 1 with(fail)
   refine AM ?_;intro q f c j;have n:Arr q w.heap.size 83 (Ab false none 0 0):=c;clear j
   go_wp2_with fail
   refine(Un o).mono ?_;rintro e t ⟨l,p,m,rfl,a,i⟩;have b:=n.ext a
   go_wp2_with(refine Aa (vs:=Ab true l p m) rfl rfl rfl rfl rfl Ak b rfl (Ad _ _ _ _) ?_;intro v d g)
   exact oM (Ai rfl Ak rfl d) rfl (Bn (f.trans a) b (At _ _ _ _) g (by omega) k i)
 · have k:Hid (decide (z<0)=false):=qh (by simpa using r);have s:IntKind.u64.wrap z=(z.natAbs:Int):=by rw[jq];omega
   have o:z.natAbs<18446744073709551616:=by omega
   go_enter func156,ntmps156
   go_upto_region 1 with(fail)
   refine AM ?_;intro q f c j;have n:Arr q w.heap.size 83 (Ab false none 0 0):=c;clear j
   go_wp2_with fail
   refine(Un o).mono ?_;rintro e t ⟨l,p,m,rfl,a,i⟩;have b:=n.ext a
   go_wp2_with(refine Aa (vs:=Ab false l p m) rfl rfl rfl rfl rfl Ak b rfl (Ad _ _ _ _) ?_;intro v d g)
   exact oM (Ai rfl Ak rfl d) rfl (Bn (f.trans a) b (At _ _ _ _) g (by omega) k i)
theorem Ez(G:AV w)(h:AD w v z)(E:AD w v' y)(C:z.natAbs<P2 9600)(o:y.natAbs<P2 9600):Calls prog 141 #[v,v'] w (D8 w ((Nat.gcd z.natAbs y.natAbs:Nat):Int)):=by
 obtain⟨s,a,n,c,rfl,Q,I⟩:=h;obtain⟨t,b,m,d,rfl,R,J⟩:=E
 go_enter func141,ntmps141
 go_upto_region 1 with(fail)
 refine CR ?_;intro P f g i p A;have L:=g.c 0 rfl;have M:=g.c 1 rfl;have N:=i.c 0 rfl;have O:=i.c 1 rfl;have F:Arr P (w.heap.size+2) 83 (Ab false none 0 0):=p;have H:=qh (Uj (G.ext f) (I.ext f) (J.ext f) C o);have l:Hid (decide (((Nat.gcd z.natAbs y.natAbs:Nat):Int)<0)=false):=qh (by simp);clear A
 go_wp2_with fail
 refine H.out.mono ?_;rintro e S ⟨B,K,D,rfl,j,x⟩;have k:=F.ext j
 go_wp2_with(refine Aa (vs:=Ab false B K D) rfl rfl rfl rfl rfl Ak k rfl (Ad _ _ _ _) ?_;intro T q r)
 exact oM (Ai rfl Ak rfl q) rfl (Bn (f.trans j) k (At _ _ _ _) r (by omega) l x)
theorem LU{t:Bool}(a:decide (z<0)=s)(b:decide (y<0)=t):z*y=if(s != t)=true then -((z.natAbs*y.natAbs:Nat):Int)else((z.natAbs*y.natAbs:Nat):Int):=by
 rw[<-iq];subst a;subst b;by_cases h1:z<0 <;> by_cases h2:y<0 <;> simp[h1,h2]
 · have:=Int.mul_nonneg_of_nonpos_of_nonpos (lL h1) (lL h2);omega
 · have:=Int.mul_nonpos_of_nonpos_of_nonneg (lL h1) (show 0<=y by omega);omega
 · have:=Int.mul_nonpos_of_nonneg_of_nonpos (show 0<=z by omega) (lL h2);omega
 · have:=lf (show 0<=z by omega) (show 0<=y by omega);omega
theorem JD{S:Nat->Prop}(h:AD w v z)(h':AD w v' y)(bz:z.natAbs<P2 9600)(A:y.natAbs<P2 9600)(H:z.natAbs<P2 2496\/y.natAbs<P2 2496)(E:Hb S v)(F:Hb S v'):Calls prog 163 #[v,v'] w (JB w S (z*y)):=by
 obtain⟨s,a,n,c,rfl,HS,hx⟩:=h;obtain⟨t,b,m,d,rfl,HT,hy⟩:=h';have V:=E.at
 have W:=F.at
 clear E F
 go_enter func163,ntmps163
 go_upto_region 1 with(fail)
 refine CR ?_;intro w0 l B C N Y;have Z:=B.c 0 rfl;have a0:=B.c 1 rfl;have a3:=C.c 0 rfl;have a4:=C.c 1 rfl;have hR:Arr w0 (w.heap.size+2) 83 (Ab false none 0 0):=N;have G:=fun(g:World) (f:Ext w0 g)=>qh (Vb ((hx.ext l).ext f) ((hy.ext l).ext f) bz A H V W);clear Y bz A H;have p:=fun(g:World) (f:Ext w0 g)=>qh (And.intro (f.cell Z) (And.intro (f.cell a0) (And.intro (f.cell a3) (f.cell a4))))
 refine Ac
  [hdP w.heap.size 0,hdB s,hdP (w.heap.size+1) 0,hdB t,hdB (s != t),hdP w.heap.size 1,hdS a n c,hdP (w.heap.size+1) 1,hdS b m d,hp (fun v g=>∃ i j k,v = .slice i j k/\Wd g i j k (z.natAbs*y.natAbs)/\Ft w.heap.size S i j),hp (fun v g=>∃ x i j k,v = .agg (Ab x i j k).toArray/\Hid (decide (z*y<0)=x)/\Wd g i j k (z*y).natAbs/\Ft w.heap.size S i j)]
  ⟨fun v w w' e ⟨i,j,k,h1,h2,h3⟩=>⟨i,j,k,h1,h2.ext e,h3⟩,fun v w w' e ⟨x,i,j,k,h1,h2,h3,h4⟩=>⟨x,i,j,k,h1,h2,h3.ext e,h4⟩,trivial⟩ ⟨?o0,?o1,?o2,?o3,?o4,?o5,?o6,?o7,?o8,?o9,?o10,trivial⟩ ?fin
 case o0 | o2=>exact ofa (d:=0)
 case o1 | o3 | o6 | o8=>exact ol
 case o5 | o7=>exact ofa (d:=1)
 case o4 =>
  refine Ao rfl fun ρ g f o h => ?_;have e0:_=_:=h.1;have e1:_=_:=h.2.1;obtain⟨I,J,K,L⟩:=(p g f).out;go_simp;cases s <;> cases t <;> rfl
 case o9 =>
  refine Ae rfl fun ρ g f o R h => ?_;have e1:_=_:=h.2.1;have e2:_=_:=h.2.2.1;obtain⟨I,J,K,L⟩:=(p g f).out;refine⟨222,#[.slice a n c,.slice b m d],by go_simp,((G g f).out).mono ?_⟩;rintro e w' ⟨i,j,k,rfl,q,r,P⟩;exact⟨_,rfl,q,i,j,k,rfl,r,P.of (l.trans f).size (fun _ h=>Or.inr h)⟩
 case o10 =>
  refine Ae rfl fun ρ g f o R h => ?_;have e1:_=_:=h.2.1;obtain⟨v2,e2,a2,n2,c2,rfl,d2,f2⟩:=h.2.2.1;obtain⟨I,J,K,L⟩:=(p g f).out;refine⟨203,#[.bool (s != t),.slice a2 n2 c2],by go_simp,(E0 d2 (z:=z*y) (LU HS.out HT.out)).mono ?_⟩;rintro e w' ⟨x,rfl,q,U,r⟩;exact⟨_,rfl,q,x,a2,n2,c2,rfl,U,r,f2⟩
 case fin =>
  intro g f;rintro _ ⟨_,_,_,rfl,_,_⟩;rintro _ ⟨s1,a1,n1,c1,rfl,M,X,Q⟩;change wpList _ _ _ _ _ _;simp only[A0];have D:=hR.ext f
  go_wp2_with(refine Aa (vs:=Ab s1 a1 n1 c1) rfl rfl rfl rfl rfl Ak D rfl (Ad _ _ _ _) ?_;intro w9 O T)
  exact oM (Ai rfl Ak rfl O) rfl (E6 (l.trans f) D (At _ _ _ _) T (by omega) M X Q)
theorem Ci(h:AD w v z)(d:AD w v' y)(c:z.natAbs<P2 9600)(a:y.natAbs<P2 9600)(b:z.natAbs<P2 2496\/y.natAbs<P2 2496):Calls prog 163 #[v,v'] w (D8 w (z*y)) :=
 (JD (S:=fun _=>True) h d c a b (fun _ _ _ _ _ _ _ _=>trivial) (fun _ _ _ _ _ _ _ _=>trivial)).mono fun _ _ h=>h.plain
structure Kp(S:Nat->Prop)(w w':World):Prop where
 os:w'.os=w.os
 tape:w'.tape=w.tape
 output:w'.output=w.output
 size:w.heap.size<=w'.heap.size
 block:∀ b,b<w.heap.size->¬ S b->w'.heap[b]?=w.heap[b]?
section
variable {S S':Nat->Prop} {w w1 w2:World}
theorem Kp.ofExt(h:Ext w w1):Kp S w w1:=⟨h.os,h.tape,h.output,h.size,fun _ a _=>h.block a⟩
theorem Kp.ofGrown{r:Option Nat}(h:w.grownBy w1 r)(d:∀ g,r=some g->S g):Kp S w w1:=⟨h.os,h.tape,h.output,h.size,fun b a c=>h.block b a (fun e=>c (d b e.symm))⟩
theorem Kp.trans(h:Kp S w w1)(k:Kp S' w1 w2)(d:∀ b,b<w.heap.size->S' b->S b):Kp S w w2 :=
 ⟨k.os.trans h.os,k.tape.trans h.tape,k.output.trans h.output,oS h.size k.size,fun b a c=>by
  rw[k.block b (ph a h.size) (fun x=>c (d b a x)),h.block b a c]⟩
theorem Kp.ext(h0:Ext w0 w)(h:Kp S w w1)(c:∀ b,S b->w0.heap.size<=b):Ext w0 w1 :=
 ⟨h.os.trans h0.os,h.tape.trans h0.tape,h.output.trans h0.output,oS h0.size h.size,fun b a=>by
  rw[h.block b (ph a h0.size) (fun x=>by have:=c b x;omega),h0.block a]⟩
theorem Kp.mono(h:Kp S w w1)(c:∀ b,b<w.heap.size->S b->S' b):Kp S' w w1:=⟨h.os,h.tape,h.output,h.size,fun b a d=>h.block b a (fun x=>d (c b a x))⟩
theorem Kp.cell(h:Kp S w w1){p:Addr}{v:Value}(hp:w.cell? p=some v)(a:¬ S p.block):w1.cell? p=some v:=by
 rw[jT (w:=w) (h.block _ (iP w p hp) a),hp]
theorem Kp.arr(h:Kp S w w1)(a:Arr w g t cs)(b:¬ S g):Arr w1 g t cs:=(h.block g a.lt b).trans a
theorem Kp.own(h:Kp S w w1)(l:Own w base e a n c cs)(o:∀ g,blk a=some g->¬ S g):Own w1 base e a n c cs:=by
 obtain⟨h1,h2⟩:=l;refine⟨h1,?_⟩;rcases h2 with h2|⟨g,b,d,j,m,k,r⟩
 · exact Or.inl h2
 · refine Or.inr ⟨g,b,d,j,m,?_,r⟩;have i:g<w.heap.size:=by
    rcases gQ g w.heap.size with h|h
    · exact h
    · simp[jw h]at k
   have f:blk a=some g:=by
    simp only[pk]at j;rw[j.1];rfl
   rw[h.block g i (o g f),k]
theorem Kp.wd(h:Kp S w w1)(j:Wd w a n c x)(f:0<n->∀ g,blk a=some g->¬ S g):Wd w1 a n c x:=by
 obtain⟨k,h1,h2⟩:=j;refine⟨k,?_,h2⟩;refine⟨Sl.len h1,Sl.cap h1,Sl.max h1,fun h0 => ?_⟩;obtain⟨b,o,rfl,d⟩:=Sl.rd h1 h0;exact⟨b,o,rfl,fun i e=>h.cell (d i e) (f h0 b rfl)⟩
end
theorem CS{p:Nat}(h:Own w base e a n c cs)(d:Arr w p t cs')(l:t≠e):blk a≠some p:=by
 rcases h.2 with⟨b,_⟩|⟨g,i,j,b,_,k,_⟩
 · simp only[pk]at b;rw[b.1];simp[blk]
 · simp only[pk]at b;rw[b.1];intro he;have f:g=p:=by simpa[blk]using he
   subst f;unfold Arr at d;rw[k]at d;simp only[oQ,jJ]at d;exact l d.2.1.symm
def JE(pa:Option Addr)(pn pc:Nat)(na:Option Addr)(nn nc:Nat):List Value:=[.slice pa pn pc,.slice na nn nc]
def B6(w:World)(base p:Nat)(qa qb:Option Nat)(N:Nat)(z:Int):Prop :=
 ∃ pa pn pc na nn nc ps ns,Arr w p 224 (JE pa pn pc na nn nc)/\blk pa=qa/\blk na=qb/\Own w base 238 pa pn pc (ps.map (Bt .u64))/\Own w base 238 na nn nc (ns.map (Bt .u64)) /\
  W.bnd 18446744073709551616 ps/\W.bnd 18446744073709551616 ns/\(qa=none\/qa≠qb)/\(qb=none\/qb≠qa)/\pn<=N/\nn<=N/\z=(W.val 18446744073709551616 ps:Int)-(W.val 18446744073709551616 ns:Int)/\base<=p
theorem B6.ext{w c:World}{base p N:Nat}{a b:Option Nat}{z:Int}(h:B6 w base p a b N z)(e:Ext w c):B6 c base p a b N z:=by
 obtain⟨j,l,k,d,g,f,m,i,h1,h2,h3,h4,h5,h6⟩:=h;exact⟨j,l,k,d,g,f,m,i,h1.ext e,h2,h3,h4.ext e,h5.ext e,h6⟩
theorem B6.kp{S:Nat->Prop}{p:Nat}(h:B6 w base p qa qb N z)(e:Kp S w w')(hp:¬ S p)(b:∀ g,qa=some g->¬ S g)(c:∀ g,qb=some g->¬ S g):B6 w' base p qa qb N z:=by
 obtain⟨k,m,l,d,i,f,n,j,h1,h2,h3,h4,h5,h6⟩:=h;exact⟨k,m,l,d,i,f,n,j,e.arr h1 hp,h2,h3,e.own h4 (fun g a=>b g (h2.symm.trans a)),e.own h5 (fun g a=>c g (h3.symm.trans a)),h6⟩
theorem B6.le{p M:Nat}(h:B6 w base p qa qb N z)(j:N<=M):B6 w base p qa qb M z:=by
 obtain⟨e,g,f,a,c,b,i,d,h1,h2,h3,h4,h5,h6,h7,h8,h9,h10,h11,h12⟩:=h;exact⟨e,g,f,a,c,b,i,d,h1,h2,h3,h4,h5,h6,h7,h8,h9,by omega,by omega,h12⟩
theorem B6.new{p:Nat}(h:Arr w p 224 (JE none 0 0 none 0 0))(b:base<=p):B6 w base p none none 0 0 :=
 ⟨none,0,0,none,0,0,[],[],h,rfl,rfl,Own.nil _ _ _,Own.nil _ _ _,(fun x a=>by simp at a),(fun x a=>by simp at a),Or.inl rfl,Or.inl rfl,lrf _,lrf _,by simp[W.val],b⟩
theorem B6.lt{w:World}{base p N:Nat}{b c:Option Nat}{z:Int}(h:B6 w base p b c N z):(base<=p/\p<w.heap.size)/\(∀ g,b=some g->base<=g/\g<w.heap.size)/\(∀ g,c=some g->base<=g/\g<w.heap.size):=by
 obtain⟨j,l,k,d,f,e,m,i,h1,h2,h3,h4,h5,h6,h7,h8,h9,h10,h11,h12,h13⟩:=h;exact⟨⟨h13,h1.lt⟩,fun g a=>h4.lt (h2.trans a),fun g a=>h5.lt (h3.trans a)⟩
theorem Vc{x:Int}(a:decide (x<0)=s)(b:decide (y<0)=s):x*y=((x.natAbs*y.natAbs:Nat):Int):=by
 have:=LU a b;rw[this];cases s <;> simp
theorem Vd{x:Int}{t:Bool}(a:decide (x<0)=s)(b:decide (y<0)=t)(h:s≠t):x*y = -((x.natAbs*y.natAbs:Nat):Int):=by
 have:=LU a b;rw[this];cases s <;> cases t <;> simp at h |-
def Uo(w:World)(base p:Nat)(qa qb:Option Nat)(N:Nat)(z:Int)(e:Ending)(w':World):Prop :=
 e = .returned (.tuple #[])/\∃ qa' qb',B6 w' base p qa' qb' (max N 300+40) z/\Kp (fun b=>b=p\/qa=some b\/qb=some b) w w'/\(qa'=qa\/∃ g,qa'=some g/\w.heap.size<=g)/\(qb'=qb\/∃ g,qb'=some g/\w.heap.size<=g)
theorem JF{p:Nat}{x:Int}(hS:B6 w base p qa qb N z)(hx:AD w v x)(hy:AD w v' y)(sx:Hb (fun g=>qa≠some g/\qb≠some g) v)(sy:Hb (fun g=>qa≠some g/\qb≠some g) v')(bx:x.natAbs<P2 9600)(a3:y.natAbs<P2 9600)(ab:x.natAbs<P2 2496\/y.natAbs<P2 2496)(hN:N<=100000000)(hb:base<=w.heap.size) :
 Calls prog 221 #[.pointer (some ⟨p,0,none⟩),v,v'] w (Uo w base p qa qb N (z+x*y)):=by
 obtain⟨s,a,n,c,rfl,HS,hx⟩:=hx;obtain⟨t,b,m,d,rfl,HT,hy⟩:=hy;have sx:=sx.at
 have sy:=sy.at
 have k1:=hx.len (k:=150) bx;have k2:=hy.len (k:=150) a3;have k3:=hx.zero;have k4:=hy.zero;have ac:n<40\/m<40:=by
  rcases ab with h|h
  · left;have:=hx.len (k:=39) h;omega
  · right;have:=hy.len (k:=39) h;omega
 clear bx a3 ab;obtain⟨xs,L,nx⟩:=hx;obtain⟨ys,M,ny⟩:=hy;have a2:=qh hS;obtain⟨pa,pn,pc,na,nn,nc,ps,ns,K,a9,aa,C,B,bp,bn,a7,a8,al,ak,hz,a6⟩:=hS;have l:=qh (And.intro (And.intro a9 aa) (And.intro a7 a8));have HZ:=qh hz;have I:=qh (And.intro bp bn);have SX:=qh sx;have SY:=qh sy;have NX:=qh nx;have NY:=qh ny;have am:=K.lt;clear a9 aa a7 a8 hz bp bn sx sy nx ny
 go_enter func221,ntmps221
 go_upto_region 1 with(fail)
 refine Ch ?_;intro w0 f T U ah;have an:=T.c 0 rfl;have ao:=T.c 1 rfl;have ap:=U.c 0 rfl;have aq:=U.c 1 rfl;have u0:w0.cell? ⟨p,0,none⟩=some (.slice pa pn pc):=(K.ext f).cell (i:=0) (by simp[JE]);have u1:w0.cell? ⟨p,1,none⟩=some (.slice na nn nc):=(K.ext f).cell (i:=1) (by simp[JE]);clear T U ah;by_cases a5:n=0
 · have O:Hid (z+x*y=z):=qh (by have:=k3.1 a5;rw[show x=0 by omega];simp);subst a5;go_wp2
   go_end0
   rw[O.out];exact⟨rfl,qa,qb,(a2.out.ext f).le (by omega),Kp.ofExt f,Or.inl rfl,Or.inl rfl⟩
 · have aj:((n:Int) == 0)=false:=by simp;omega
   by_cases a4:m=0
   · have O:Hid (z+x*y=z):=qh (by have:=k4.1 a4;rw[show y=0 by omega];simp);subst a4;go_wp2
     go_end0
     rw[O.out];exact⟨rfl,qa,qb,(a2.out.ext f).le (by omega),Kp.ofExt f,Or.inl rfl,Or.inl rfl⟩
   · have ai:((m:Int) == 0)=false:=by simp;omega
     cases s <;> cases t
     case false.false | true.true =>
      have a0:blk a≠qa:=fun he=>by
       obtain⟨P,oo,rfl,_⟩:=L.at (j:=0) (by omega);exact(SX.out (by omega) P rfl).1 he.symm
      have a1:blk b≠qa:=fun he=>by
       obtain⟨P,oo,rfl,_⟩:=M.at (j:=0) (by omega);exact(SY.out (by omega) P rfl).1 he.symm
      have F:blk pa≠some p:=CS C K (by decide);have G:blk na≠some p:=CS B K (by decide);go_wp2
      refine D9 9 (by decide) (by kernel_rfl) (fun wx=>Ext w0 wx)
       [he (.pointer (some ⟨p,0,none⟩)),
 he (.pointer (some ⟨p,0,none⟩)),
 he (.pointer (some ⟨p,0,none⟩)),
 he (.pointer (some ⟨p,0,none⟩)),
 he (.slice pa pn pc),
 he (.pointer (some ⟨w.heap.size,1,none⟩)),
 he (.slice a n c),
 he (.pointer (some ⟨(w.heap.size+1),1,none⟩)),
 he (.slice b m d)]
       (by kernel_rfl) (by kernel_rfl) (fun _ _ _ d _ h=>by cases d <;> exact h) (fun _ _ e h=>h.trans e) ((Ext.refl w0).drew) ⟨trivial,trivial,trivial,trivial,trivial,trivial,trivial,trivial,trivial,trivial⟩ ⟨?o0,?o1,?o2,?o3,?o4,?o5,?o6,?o7,?o8,trivial⟩ ?fin
      case o0 | o1=>exact omv
      case o2=>exact onc
      case o3=>exact ofa (d:=0)
      case o4 | o6 | o8=>exact ol
      case o5 | o7=>exact ofa (d:=1)
      case fin =>
       intro wx r;change wpList _ _ _ _ _ _;simp only[oD,oC,Dx,io,lu,kf,iw,Act.put,lD,kN,ll];have R:=(K.ext f).ext r;have Z:=(C.ext f).ext r;have Y:=(B.ext f).ext r;have ag:=r.size;have ad:=f.size
       have q:=E5 (w:=wx) (V:=W.val 18446744073709551616 ps) Z I.out.1 rfl ((L.ext f).ext r) ((M.ext f).ext r) NX.out NY.out (by omega) (by omega) (by rw[l.out.1.1];exact a0) (by rw[l.out.1.1];exact a1) ac (by omega) (by omega) (by omega) (by omega)
       go_wp2_with fail
       refine q.mono ?_;rintro e w2 ⟨J,n',Q,zs,rfl,o,hv,af⟩;have hA2:=R.kept o.grown (fun he=>F he.symm);have q1:=hA2.c 0 rfl;have q2:=hA2.frozen 0;have X:=Y.kept o.grown (by rw[l.out.1.2,l.out.1.1];exact l.out.2.2);have HV:=qh hv;have ae:=o.grown.size;clear q hv;go_wp2
       go_end0
       have A:=Am w2 p 0 (.slice J n' Q);have H:=CS o.own hA2 (by decide);have E:=f.trans r;refine⟨rfl,blk J,qb,⟨J,n',Q,na,nn,nc,zs,ns,hA2.set 0 (.slice J n' Q),rfl,l.out.1.2,o.own.kept A (Or.inr H),X.kept A (Or.inr G),o.bnd,I.out.2,?_,?_,by omega,by omega,?_,a6⟩,?_,?_,?_⟩
       · rcases o.src with e|⟨g,e,D⟩
         · rw[e,l.out.1.1];exact l.out.2.1
         · refine Or.inr fun he => ?_;rw[e,<-l.out.1.2]at he;have:=(B.lt he.symm).2;omega
       · rcases l.out.2.2 with h|h
         · exact Or.inl h
         · refine Or.inr fun he => ?_;rcases o.src with e|⟨g,e,D⟩
           · rw[e,l.out.1.1]at he;exact h he
           · rw[e,<-l.out.1.2]at he;have:=(B.lt he).2;omega
       · rw[HZ.out,HV.out,Vc HS.out HT.out,gK];omega
       · exact((Kp.ofExt E).trans (Kp.ofGrown o.grown (S:=fun b=>b=p\/qa=some b\/qb=some b) (fun g D=>Or.inr (Or.inl (l.out.1.1.symm.trans D)))) (fun _ _ h=>h)).trans (Kp.ofGrown A (S:=fun b=>b=p\/qa=some b\/qb=some b) (fun g D=>Or.inl (by simpa using D.symm))) (fun _ _ h=>h)
       · rcases o.src with e|⟨g,e,D⟩
         · exact Or.inl (e.trans l.out.1.1)
         · exact Or.inr ⟨g,e,by omega⟩
       · exact Or.inl rfl
     case false.true | true.false =>
      have a0:blk a≠qb:=fun he=>by
       obtain⟨P,oo,rfl,_⟩:=L.at (j:=0) (by omega);exact(SX.out (by omega) P rfl).2 he.symm
      have a1:blk b≠qb:=fun he=>by
       obtain⟨P,oo,rfl,_⟩:=M.at (j:=0) (by omega);exact(SY.out (by omega) P rfl).2 he.symm
      have F:blk na≠some p:=CS B K (by decide);have G:blk pa≠some p:=CS C K (by decide);go_wp2
      refine D9 9 (by decide) (by kernel_rfl) (fun wx=>Ext w0 wx)
       [he (.pointer (some ⟨p,0,none⟩)),
 he (.pointer (some ⟨p,0,none⟩)),
 he (.pointer (some ⟨p,0,none⟩)),
 he (.pointer (some ⟨p,1,none⟩)),
 he (.slice na nn nc),
 he (.pointer (some ⟨w.heap.size,1,none⟩)),
 he (.slice a n c),
 he (.pointer (some ⟨(w.heap.size+1),1,none⟩)),
 he (.slice b m d)]
       (by kernel_rfl) (by kernel_rfl) (fun _ _ _ d _ h=>by cases d <;> exact h) (fun _ _ e h=>h.trans e) ((Ext.refl w0).drew) ⟨trivial,trivial,trivial,trivial,trivial,trivial,trivial,trivial,trivial,trivial⟩ ⟨?o0,?o1,?o2,?o3,?o4,?o5,?o6,?o7,?o8,trivial⟩ ?fin
      case o0 | o1=>exact omv
      case o2=>exact onc
      case o3 | o5 | o7=>exact ofa (d:=1)
      case o4 | o6 | o8=>exact ol
      case fin =>
       intro wx r;change wpList _ _ _ _ _ _;simp only[oD,oC,Dx,io,lu,kf,iw,Act.put,lD,kN,ll];have R:=(K.ext f).ext r;have Z:=(B.ext f).ext r;have Y:=(C.ext f).ext r;have ag:=r.size;have ad:=f.size
       have q:=E5 (w:=wx) (V:=W.val 18446744073709551616 ns) Z I.out.2 rfl ((L.ext f).ext r) ((M.ext f).ext r) NX.out NY.out (by omega) (by omega) (by rw[l.out.1.2];exact a0) (by rw[l.out.1.2];exact a1) ac (by omega) (by omega) (by omega) (by omega)
       go_wp2_with fail
       refine q.mono ?_;rintro e w2 ⟨J,n',Q,zs,rfl,o,hv,af⟩;have hA2:=R.kept o.grown (fun he=>F he.symm);have q1:=hA2.c 1 rfl;have q2:=hA2.frozen 1;have X:=Y.kept o.grown (by rw[l.out.1.1,l.out.1.2];exact l.out.2.1);have HV:=qh hv;have ae:=o.grown.size;clear q hv;go_wp2
       go_end0
       have A:=Am w2 p 1 (.slice J n' Q);have H:=CS o.own hA2 (by decide);have E:=f.trans r;refine⟨rfl,qa,blk J,⟨pa,pn,pc,J,n',Q,ps,zs,hA2.set 1 (.slice J n' Q),l.out.1.1,rfl,X.kept A (Or.inr G),o.own.kept A (Or.inr H),I.out.1,o.bnd,?_,?_,by omega,by omega,?_,a6⟩,?_,?_,?_⟩
       · rcases l.out.2.1 with h|h
         · exact Or.inl h
         · refine Or.inr fun he => ?_;rcases o.src with e|⟨g,e,D⟩
           · rw[e,l.out.1.2]at he;exact h he
           · rw[e,<-l.out.1.1]at he;have:=(C.lt he).2;omega
       · rcases o.src with e|⟨g,e,D⟩
         · rw[e,l.out.1.2];exact l.out.2.2
         · refine Or.inr fun he => ?_;rw[e,<-l.out.1.1]at he;have:=(C.lt he.symm).2;omega
       · rw[HZ.out,HV.out,Vd HS.out HT.out (by decide),gK];omega
       · exact((Kp.ofExt E).trans (Kp.ofGrown o.grown (S:=fun b=>b=p\/qa=some b\/qb=some b) (fun g D=>Or.inr (Or.inr (l.out.1.2.symm.trans D)))) (fun _ _ h=>h)).trans (Kp.ofGrown A (S:=fun b=>b=p\/qa=some b\/qb=some b) (fun g D=>Or.inl (by simpa using D.symm))) (fun _ _ h=>h)
       · exact Or.inl rfl
       · rcases o.src with e|⟨g,e,D⟩
         · exact Or.inl (e.trans l.out.1.2)
         · exact Or.inr ⟨g,e,by omega⟩
end Go.Proofs.YtlbmnokpiilfpaaGreatDoor
