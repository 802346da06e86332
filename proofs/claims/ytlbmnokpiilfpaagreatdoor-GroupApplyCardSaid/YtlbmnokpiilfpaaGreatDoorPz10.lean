/- Part Pz10. -/
import Derived.Test.YtlbmnokpiilfpaaGreatDoorPz9
import Derived.Shelf.SlSortCmp.NoneTotal
set_option linter.all false
set_option maxRecDepth 100000
set_option maxHeartbeats 100000000
namespace Go.Proofs.YtlbmnokpiilfpaaGreatDoor
open Tryz Go Go.RowKit Go.Sort
def oH:=@List.take_add_one
def p7:=@Array.extract_eq_self_of_le
def sU:=@List.getElem?_map
def tK:=@List.getElem?_set_self
def vC:=@Option.isSome_some
def vJ:=@List.Perm.refl
def vj:=@Nat.le_of_eq
def xd:=@Option.isSome_none
variable {s s':Bool} {rows:List (List Value)} {e te te':List Int} {base c d g m n:Nat} {a a' b b':Option Addr} {t:TypeId} {w:World}
def EV:Type:={ p:List Value×Pl.Tm // (∃ s a n c b m d,p.1=As p.2.1 s a n c b m d)/\p.2.1.length=6/\∀ x∈p.2.1,0<=x/\x<=1099511627776 }
def EV.enc(v:EV):List Value:=v.1.1
def EV.tm(v:EV):Pl.Tm:=v.1.2
instance : Inhabited EV:=⟨⟨(As ze false none 0 0 none 0 0,(ze,0)),⟨false,none,0,0,none,0,0,rfl⟩,rfl,by simp[ze]⟩⟩
theorem EV.len(v:EV):v.enc.length=10:=by
 obtain⟨⟨r,t⟩,⟨s,a,n,c,b,m,d,h⟩,h6,_⟩:=v;show r.length=10;rw[show r=_ from h,BC,h6]
theorem EV.one(v:EV):∀ u∈v.enc,u.oneCell'=true:=by
 obtain⟨⟨r,t⟩,⟨s,a,n,c,b,m,d,h⟩,h6,_⟩:=v;intro u hu;have:r=As t.1 s a n c b m d:=h;subst this;exact AI u hu
theorem EV.nu(v:EV):∀ u∈v.enc,∀ i,u ≠ .int .u64 i:=by
 obtain⟨⟨r,t⟩,⟨s,a,n,c,b,m,d,h⟩,h6,_⟩:=v;intro u hu;have:r=As t.1 s a n c b m d:=h;subst this;exact AV u hu
theorem EV.six(v:EV):v.tm.1.length=6:=v.2.2.1
def cfE(x y:EV):Int:=Pl.ordE y.tm.1 x.tm.1
theorem Og{x y:EV}(h:ltOf cfE x y=true):cfE x y<0:=rL h
theorem Ii{x y:EV}(h:ltOf cfE x y=false):¬ cfE x y<0:=of_decide_eq_false h
theorem YM:SWO (ltOf cfE) where
 irrefl x:=pN (by unfold cfE;rw[Pl.ordE_self];omega)
 trans x y z h1 h2:=by
  have e:=Og h1;have d:=Og h2;unfold cfE at e d;have f:=Pl.ordE_anti x.tm.1 y.tm.1;have g:=Pl.ordE_anti y.tm.1 z.tm.1;have i:=Pl.ordE_anti x.tm.1 z.tm.1;have:=Pl.ordE_trans (a:=x.tm.1) (b:=y.tm.1) (c:=z.tm.1) (by omega) (by omega);exact qC (by unfold cfE;omega)
 ntrans x y z h1 h2:=by
  have e:=Ii h1;have d:=Ii h2;unfold cfE at e d;refine pN ?_;unfold cfE;intro h3;have f:=Pl.ordE_anti x.tm.1 y.tm.1;have g:=Pl.ordE_anti y.tm.1 z.tm.1;have i:=Pl.ordE_anti x.tm.1 z.tm.1;by_cases h:Pl.ordE y.tm.1 x.tm.1=0
  · rw[Pl.ordE_eq (by rw[x.six,y.six]) h]at d;omega
  · have:=Pl.ordE_trans (a:=y.tm.1) (b:=x.tm.1) (c:=z.tm.1) (by omega) (by omega);omega
theorem Oh(w:World)(A B:Obj)(n:Nat):((w.alloc A).alloc B).drewN n=grow (w.drewN n) #[A,B]:=by
 rw[alloc_eq_grow,alloc_eq_grow,grow_grow];rfl
theorem MU(h:Arr w g t (As e s a n c b m d))(h6:e.length=6):SlI w (some ⟨g,0,none⟩) 6 6 e:=by
 refine⟨by simpa using h6,lrf _,by unfold maxLen;omega,fun _=>⟨g,0,rfl,fun i f => ?_⟩⟩;rw[qA,h.cell (by rw[BC];omega)];have h1:(As e s a n c b m d).getD i undef=(e.map (Value.int .i64)).getD i undef:=by
  unfold As;rw[gqq,pO (by simp;omega),<-gqq]
 rw[h1]
theorem PQ{o c' l f:Nat}(h6:te.length=6)(I:te'.length=6)(M:∀ x∈te,0<=x/\x<=1099511627776)(g:∀ x∈te',0<=x/\x<=1099511627776) :
 Calls prog 144 #[.agg (As te s a n c b m d).toArray,.agg (As te' s' a' o c' b' l f).toArray] w fun e R=>e = .returned (.int .i64 (Pl.ordE te' te))/\∃ q Q,R=grow (w.drewN q) Q:=by
 have K:=fun(O:World) (h1:SlI O (some ⟨w.heap.size+1,0,none⟩) 6 6 te') (h2:SlI O (some ⟨w.heap.size,0,none⟩) 6 6 te)=>qh (J2 h1 h2 (by omega) (fun z J=>by have:=g z J;omega) (fun z J=>by have:=M z J;omega));obtain⟨V,L⟩:∃ V,Pl.ordE te' te=V:=⟨_,rfl⟩;rw[L]at K |-;clear M g L;obtain⟨p,r,t,v,y,A,P⟩:=Bt h6;obtain⟨B,C,D,E,F,G,H⟩:=Bt I;subst P;subst H
 have N:(As [p,r,t,v,y,A] s a n c b m d).toArray=#[.int .i64 p,.int .i64 r,.int .i64 t,.int .i64 v,.int .i64 y,.int .i64 A,.bool s,.slice a n c,.bool false,.slice b m d]:=rfl;have i:(As [B,C,D,E,F,G] s' a' o c' b' l f).toArray=#[.int .i64 B,.int .i64 C,.int .i64 D,.int .i64 E,.int .i64 F,.int .i64 G,.bool s',.slice a' o c',.bool false,.slice b' l f]:=rfl;have hA0:=ER w (As [p,r,t,v,y,A] s a n c b m d) (As [B,C,D,E,F,G] s' a' o c' b' l f) 92 92
 have hA1:=ES w (As [p,r,t,v,y,A] s a n c b m d) (As [B,C,D,E,F,G] s' a' o c' b' l f) 92 92;have j:=MU hA0 rfl;have k:=MU hA1 rfl;rw[N,i]at j k;rw[N,i];clear hA0 hA1
 go_enter func144,ntmps144
 go_wp2
 go_quiet (exact sV (K _ (k.ext ((Ext.refl _).drewN _)) (j.ext ((Ext.refl _).drewN _))).out)
 go_wp2;go_ret;exact⟨rfl,nq,_,Oh _ _ _ _⟩
theorem Sj(x y:EV)(w:World):Calls prog 144 #[.agg x.enc.toArray,.agg y.enc.toArray] w fun e G=>e = .returned (.int .i64 (cfE x y))/\∃ q C,G=grow (w.drewN q) C:=by
 obtain⟨⟨r,t⟩,⟨s,a,n,c,b,m,d,h⟩,h6,z⟩:=x;obtain⟨⟨D,F⟩,⟨E,i,B,k,j,A,l,v⟩,f,g⟩:=y;have o:r=As t.1 s a n c b m d:=h;have p:D=As F.1 E i B k j A l:=v;subst o;subst p;exact PQ h6 f z g
theorem E8(d:Array EV):(flatK EV.enc 10 d).toList=(d.toList.map EV.enc).flatten:=by
 have e:∀ r∈d.toList.map EV.enc,r.length=10:=by
  intro r g;obtain⟨v,_,rfl⟩:=pU.1 g;exact v.len
 refine sF fun j => ?_;by_cases f:j<d.size*10
 · have b:j=j/10*10+j%10:=by omega
   have a:j/10<d.size:=by omega
   have h3:=DX (d.toList.map EV.enc) e (j/10) (j%10) (by omega);rw[<-b]at h3;rw[h3];have c:d[j/10].enc.length=10:=EV.len _;simp[flatK,f,a];rw[oO (by rw[c];omega)];rfl
 · have h1:(flatK EV.enc 10 d).toList.length<=j:=by simp;omega
   have h2:(d.toList.map EV.enc).flatten.length<=j:=by rw[BM _ e];simp;omega
   rw[pV h1,pV h2]
theorem Oi(w:World)(g m:Nat)(dk:Array EV)(os:Array Obj):w.grownBy (sortWorldK EV.enc 10 w g 0 m dk os) (some g):=by
 refine⟨rfl,rfl,rfl,by unfold sortWorldK putRowK;simp,fun k b a => ?_⟩;unfold sortWorldK putRowK;rw[heap_grow_old _ _ (by simpa using b)];have:g≠k:=by rintro rfl;exact a rfl
 simp[putRow,mapBlock,rP,this]
theorem Sk{e:TypeId}{dk:Array EV}(os:Array Obj)(h:AR w base e 10 (some ⟨g,0,none⟩) n c rows)(z:dk.size=n)(x:NoU w g) :
 AR (sortWorldK EV.enc 10 w g 0 m dk os) base e 10 (some ⟨g,0,none⟩) n c (dk.toList.map EV.enc)/\NoU (sortWorldK EV.enc 10 w g 0 m dk os) g:=by
 rcases h.2.2 with⟨o,_⟩|⟨B,t,a,o,y,p,h1,h2,h3,h4⟩
 · simp at o
 simp only[pI,pz,qq,qO,tP]at o;obtain⟨rfl,rfl⟩:=o;have q:g<w.heap.size:=by
  rcases qx g w.heap.size with h|h
  · exact h
  · simp[rl h]at p
 have d:(flatK EV.enc 10 dk).size=n*10:=by rw[size_flatK,z]
 have f:(sortWorldK EV.enc 10 w g 0 m dk os).heap[g]?=some (.cells (putCells id 0 (flatK EV.enc 10 dk) a) e (0,0)):=by
  unfold sortWorldK putRowK;rw[heap_grow_old _ _ (by simpa using q)];simp[putRow,mapBlock,rP,p,onCells]
 have k:∀ j,(putCells id 0 (flatK EV.enc 10 dk) a)[j]?=if j<a.size then(if j<n*10 then(flatK EV.enc 10 dk)[j]? else a[j]?)else none:=by
  intro j;unfold putCells;rw[Array.getElem?_mapIdx];by_cases l:j<a.size
  · rw[pP l,tl l];simp only[qU,pE,tP,qA,d,id,vi];by_cases b:j<n*10
    · rw[pP b,pP b,tl (by rw[d];exact b)];simp[d,b]
    · rw[pC b,pC b]
  · rw[pC l,rl (by omega)];rfl
 have A:n*10<=a.size:=by rw[h3];exact px 10 h1
 refine⟨⟨?_,?_,Or.inr ⟨g,c,putCells id 0 (flatK EV.enc 10 dk) a,rfl,y,f,h1,h2,by simp[putCells,h3],?_⟩⟩,?_⟩
 · intro r s;obtain⟨v,_,rfl⟩:=pU.1 s;exact v.len
 · rw[<-E8];simp[d]
 · rw[<-E8];refine sF fun j => ?_;rw[List.getElem?_take];by_cases l:j<n*10
   · rw[pP l];have:=k j;rw[pP (by omega),pP l]at this;simpa using this
   · rw[pC l,pV (by simp[d];omega)]
 · intro j i he;rw[xb _ g _ _ e (0,0) f,k j]at he;split at he
   · split at he
     · have h5:(flatK EV.enc 10 dk).toList[j]?=some (.int .u64 i):=by simpa using he
       rw[E8]at h5;obtain⟨r,s,hu⟩:=vu.1 (ql h5);obtain⟨v,_,rfl⟩:=pU.1 s;exact v.nu _ hu i rfl
     · refine x j i ?_;rw[xb w g _ a e (0,0) p];exact he
   · cases he
def Bp(l:List Pl.Tm):Prop:=∀ t∈l,t.1.length=6/\∀ x∈t.1,0<=x/\x<=1099511627776
theorem GV{l:List Pl.Tm}(O:C1 w base a n c l)(hb:Bp l)(hn:n<=1000000) :
 Calls prog 143 #[.slice a n c,.func (.func 144) #[] #[]] w fun e N=>e = .returned (.tuple #[])/\∃ Z,Z.Perm l/\Pl.desc Z/\C1 N base a n c Z/\w.grownBy N (blk a):=by
 rcases pT n with h0|h0
 · subst h0;refine(AnyF.slices_SortFunc_none WC a c _ w).mono ?_;rintro e N ⟨rfl,rfl⟩;refine⟨rfl,l,vJ _,?_,O,vR _ _⟩;have:l=[]:=pG O.len;subst this;exact List.Pairwise.nil
 · obtain⟨p,h1,h2,h3,h4⟩:=O;obtain⟨g,rfl,a3,S⟩:=h1.place h0;have hU:=h2 g rfl;have J:=h1.slk (by omega);have Q:∀ i,∃ v:EV,i<n->v.enc=p.getD i []/\v.tm=l.getD i ([],0):=by
    intro i;by_cases z:i<n
    · obtain⟨s,a,n',c',b,m,d,F,e2,e3⟩:=h4 i z;have hm:=hb (l.getD i ([],0)) (by simp[show i<l.length by omega]);exact⟨⟨(p.getD i [],l.getD i ([],0)),⟨s,a,n',c',b,m,d,F⟩,hm.1,hm.2⟩,fun _=>⟨rfl,rfl⟩⟩
    · exact⟨default,fun h=>absurd h z⟩
   obtain⟨f,K⟩:=Classical.axiomOfChoice Q
   let d:Array EV:=((List.range n).map f).toArray
   have A:d.size=n:=by simp[d]
   have P:∀ i,i<n->d[i]! = f i:=fun i z=>by simp[d,z]
   have hH:HoldsK EV.enc 10 w g 0 d:=by
    intro j L;rw[size_flatK,A]at L;rw[qA,get_flatK _ _ _ _ (by rw[A];exact L)];obtain⟨b',a4,F,hc⟩:=J.rd h0;simp only[pz,qq,qO]at F;obtain⟨rfl,rfl⟩:=F;have B:j/10<n:=by omega
    have G:=hc (j/10) B (j%10) (by omega);have V:0+j/10*10+j%10=j:=by omega
    rw[V]at G;refine⟨?_,?_⟩
    · rw[G,P _ B,(K _ B).1];have W:=J.row B;have h9:j%10<(p.getD (j/10) []).length:=by rw[W];omega
      simp only[id,pz];rw[gqq,oO h9,getElem!_pos (p.getD (j/10) []) (j%10) h9];rfl
    · rcases h1.2.2 with⟨M,_⟩|⟨g1,a0,a1,M,a2,hh,_⟩
      · simp at M
      simp only[pI,pz,qq,qO,tP]at M;rw[M.1];simp[World.frozen?,hh]
   have eg:∀ C w,(callFunc 144 C).run prog w = .ok (.enter 144 C) w:=enters_of func144 (by kernel_rfl) rfl;have H:CmpLays prog 144 #[] EV.enc 10 cfE g 0 d.size w:=fun m os dk _ x y=>Sj x y _;have h:=AnyQ.slices_SortFunc WC 10 (fun w=>Tryz.isAgg92 w) (fun w=>Tryz.sizeOf92 w) EV.enc EV.len EV.one cfE YM 144 #[] g 0 c d w eg H hH S (by omega);rw[A]at h;refine h.mono ?_;rintro e N ⟨rfl,o,q,os,hp,X,rfl⟩;obtain⟨p1,_,p3⟩:=hp;have D:o.size=n:=by rw[p1,A]
   have t:o.toList.Perm d.toList:=by
    rw[p7 (by omega),p7 (by omega)]at p3;exact p3
   have I:=Oi w g q o os;obtain⟨o1,o2⟩:=Sk (m:=q) (dk:=o) os h1 D hU;have Y:d.toList.map EV.tm=l:=by
    apply rJ
    · simp[d,h3]
    · intro i i1 i2;have z:i<n:=by omega
      simp only[d,sn,List.getElem_map,List.getElem_range,Function.comp];rw[(K i z).2];simp[i2]
   refine⟨rfl,o.toList.map EV.tm,?_,?_,⟨o.toList.map EV.enc,o1,fun g' R => ?_,by simp[D],fun i z => ?_⟩,I⟩
   · rw[<-Y];exact t.map _
   · unfold Pl.desc;rw[sC];rw[rZ];intro i j z L T;have r:i<o.size:=by simpa using z
     have U:j<o.size:=by simpa using L
     have h5:=Ii (X i j (pE _) T (by omega));unfold cfE at h5;rw[getElem!_pos o i r,getElem!_pos o j U]at h5;have h6:=Pl.ordE_anti o[i].tm.1 o[j].tm.1;simp only[Array.getElem_toList];omega
   · have:g=g':=by simpa[blk]using R
     subst this;exact o2
   · have r:i<o.toList.length:=by simpa[D]using z
     obtain⟨k,hk,e⟩:=r9.1 (t.mem_iff.1 (qG r));have E:k<n:=by simpa[d]using hk
     have F:o.toList[i]=f k:=by rw[<-e];simp[d]
     have h7:=h4 k E;rw[<-(K k E).1,<-(K k E).2,<-F]at h7;have e2:(o.toList.map EV.enc).getD i []=o.toList[i].enc:=by rw[gqq,sU,oO r];rfl
     have e3:(o.toList.map EV.tm).getD i ([],0)=o.toList[i].tm:=by rw[gqq,sU,oO r];rfl
     rw[e2,e3];exact h7.keptU hU I
end Go.Proofs.YtlbmnokpiilfpaaGreatDoor
namespace Go.Proofs.YtlbmnokpiilfpaaGreatDoor
open Tryz Go Go.RowKit
variable {f:Act} {ops:Array Oper} {Q:Exit->Act->World->Prop} {vars:Int} {rows:List (List Value)} {xs ys:List Int} {rest:List Oper} {cs cs' cur:List Value} {R b b' base c g k m n p:Nat} {o:Oper} {d s:Operand} {A a:Option Addr} {dT e e' sT t ty:TypeId} {z:Value} {w w' w0:World}
section
variable {P:Program} {w:World}
theorem Vw{bytes d dc:Nat}(E:P.underlying dT=some (.slice e))(f:Ca P e z bytes)
 (h:Arr w g t cur) (C:cur.length=d) (D:Sl w A m c cs) (s:d<=m) (h1:∀ v∈cs,v.oneCell'=true) :
 ∃ y,(Builtin.copy_ #[dT,sT] ty #[.slice (some ⟨g,0,none⟩) d dc,.slice A m c]).run P w = .ok (goInt d) y/\Arr y g t (cs.take d)/\w.grownBy y (some g):=by
 obtain⟨i,J,L,k,H⟩:=vw f;have p:(P.info? e).map (·.size)=some 1:=by simp[J,k]
 have l:=D.len;by_cases h0:d=0
 · subst h0;have r:cur=[]:=pG C;refine⟨w,run_copy_none w dT sT ty e _ _ 0 dc m c E p (by simp),?_,⟨rfl,rfl,rfl,lrf _,fun _ _ _=>rfl⟩⟩;rw[rf,<-r];exact h
 · obtain⟨b,x,G,I⟩:=D.rd (by omega);subst G;have o:m.min d=d:=Nat.min_eq_right s
   have:=run_copy_row (P:=P) w dT sT ty e g 0 d dc ⟨b,x,none⟩ m c cur.toArray t (cs.take d) E p h (by rw[o,qg,l];exact rA s) (by
    intro j v q;have K:j<(cs.take d).length:=by
     rcases qx j (cs.take d).length with h|h
     · exact h
     · simp[pV h]at q
    rw[qg]at K;have h2:=I j (by omega);rw[List.getElem?_take_of_lt (by omega)]at q;rw[gqq,q]at h2;rw[<-pY (a:=v) (b:=undef),<-h2.symm.symm];unfold Addr.add
    by_cases h3:j=0 <;> simp[h3]at h2 |- <;> exact h2) (by simp[C];omega) (fun v q=>h1 v (rF q))
   have n:(cs.take d).length=d:=by rw[qg,l];exact rA s
   refine⟨_,by rw[this,n],?_,BK w g _⟩;have h9:=Cm h (cur.take 0 ++ cs.take d ++ cur.drop (0+(cs.take d).length));rw[n]at h9;have B:cur.take 0 ++ cs.take d ++ cur.drop (0+d)=cs.take d:=by
    rw[rf,qR,qA,qm (by omega),rD]
   rw[B]at h9;have F:cur.toArray.toList.take 0 ++ cs.take d ++ cur.toArray.toList.drop (0+d)=cs.take d:=B;rw[F];exact h9
theorem W2(n:o.guard=none)
 (B:o.op = .call { callee := .builtin .copy,args:=#[d,s],argTypes:=#[dT,sT] })
 {e:TypeId} {z:Value} {bytes g i dc m c:Nat} {A:Option Addr} {t:TypeId} {b cs:List Value} (D:P.underlying dT=some (.slice e)) (a:Ca P e z bytes)
 (r:f.eval d = .slice (some ⟨g,0,none⟩) i dc) (p:f.eval s = .slice A m c)
 (h:Arr w g t b) (x:b.length=i) (C:Sl w A m c cs) (y:i<=m) (h1:∀ v∈cs,v.oneCell'=true)
 (q:∀ k,Arr k g t (cs.take i)->w.grownBy k (some g)->wpList P ops Q rest (f.put o.dst (goInt i)) k):wpList P ops Q (o :: rest) f w:=by
 refine qT n fun K l => ?_;obtain⟨k,j,h2,h3⟩:=Vw (P:=P) (ty:=o.type) (sT:=sT) (dc:=dc) D a h x C y h1;unfold Oper.wp execOp;simp only[B,resolve,invoke,builtin,q8,qz,pK,sM,qP,sS,r,p,j,Oper.upon];exact l _ _ (q k h2 h3)
end
def Vx(w:World)(g:Nat)(xs:List Int):Prop:=Arr w g 3 (xs.map (Value.int .i64))
theorem Vx.own(h:Vx w g xs)(a:base<=g)(b:xs.length<=maxLen):Own w base 3 (some ⟨g,0,none⟩) xs.length xs.length (xs.map (Value.int .i64)):=by
 refine⟨by simp,Or.inr ⟨g,xs.length,(xs.map (Value.int .i64)).toArray,rfl,a,h,lrf _,b,by simp,?_⟩⟩;rw[sH];exact pu (by simp)
theorem FE(h:Own w base e a n c cs)(d:Arr w p t cs')(l:t≠e):blk a≠some p:=by
 rcases h.2 with⟨b,_⟩|⟨g,i,j,b,_,k,_⟩
 · simp only[pI]at b;rw[b.1];simp[blk]
 · simp only[pI]at b;rw[b.1];intro he;have f:g=p:=by simpa[blk]using he
   subst f;unfold Arr at d;rw[k]at d;simp only[pz,rW]at d;exact l d.2.1.symm
theorem F5:BV prog 26 (tmL ⟨#[]⟩ none 0 0) 2 40:=⟨by kernel_rfl,rfl,by omega⟩
def I5(w:World)(base:Nat)(row:List Value)(t:Tx):Prop:=∃ s a n c,row=tmL s a n c/\An s=t.1/\Own w base 3 a n c (t.2.map (Value.int .i64))
def TmO(w:World)(base:Nat)(a:Option Addr)(n c:Nat)(ts:List Tx):Prop:=∃ rows,AR w base 26 2 a n c rows/\ts.length=n/\∀ i,i<n->I5 w base (rows.getD i []) (ts.getD i tm0)
theorem I5.ext{w b:World}{base:Nat}{row:List Value}{t:Tx}(h:I5 w base row t)(e:Ext w b):I5 b base row t:=by
 obtain⟨s,a,n,c,h1,h2,h3⟩:=h;exact⟨s,a,n,c,h1,h2,h3.ext e⟩
theorem TmO.ext{w d:World}{base:Nat}{a:Option Addr}{n c:Nat}{ts:List Tx}(h:TmO w base a n c ts)(e:Ext w d):TmO d base a n c ts:=by
 obtain⟨b,h1,h2,h3⟩:=h;exact⟨b,h1.ext e,h2,fun i f=>(h3 i f).ext e⟩
theorem TmO.sl{w:World}{base:Nat}{a:Option Addr}{n c:Nat}{ts:List Tx}(h:TmO w base a n c ts):AH w a n c ts:=by
 obtain⟨b,h1,h2,h3⟩:=h;refine⟨b,h1.slk (by omega),h2,fun i k => ?_⟩;obtain⟨s,d,l,e,f,g,j⟩:=h3 i k;exact⟨s,d,l,e,f,g,j.sl⟩
theorem TmO.nil(w:World)(base:Nat):TmO w base none 0 0 []:=⟨[],AR.nil _ _ _ _,rfl,fun i a=>absurd a (by omega)⟩
theorem TmO.mono{w:World}{base b:Nat}{a:Option Addr}{n c:Nat}{ts:List Tx}(h:TmO w base a n c ts)(e:b<=base):TmO w b a n c ts:=by
 obtain⟨d,h1,h2,h3⟩:=h;refine⟨d,h1.mono e,h2,fun i m => ?_⟩;obtain⟨s,f,o,g,j,k,l⟩:=h3 i m;exact⟨s,f,o,g,j,k,l.mono e⟩
theorem II{v c':Nat}(h:Own w b e a n c cs)(r:AR w b' e' k (some ⟨g,0,none⟩) v c' rows)(t:e≠e'):blk a≠some g:=by
 rcases r.2.2 with⟨i,_⟩|⟨x,o,p,i,_,s,_⟩
 · simp at i
 simp only[pI,pz,qq,qO,tP]at i;rcases h.2 with⟨f,_⟩|⟨q,l,m,f,_,d,_⟩
 · simp only[pI]at f;rw[f.1];simp[blk]
 · simp only[pI]at f;rw[f.1];intro he;have j:q=g:=by simpa[blk]using he
   rw[j]at d;rw[i.1]at d;rw[s]at d;simp only[pz,rW]at d;exact t d.2.1.symm
def Ek(q:Rat):Prop:=∀ (w:World) (v:Value),AM w->BU w v q->Calls prog 124 #[v] w fun e w'=>e = .returned (.string ⟨(txt q).toArray⟩)/\Ext w w'
theorem LZ{q:Rat}(b:q.num.natAbs<P2 1920)(c:q.den<P2 1920):Ek q:=fun _ _ a h=>PL a h b c
def wrT(vars:Nat)(l:List Pl.Tm):List Tx:=l.map (fun t=>(txt t.2,t.1.take vars))
def BS(vars:Int)(a:Option Addr)(n c:Nat):Value := .agg #[.int .i64 vars,.slice a n c]
def Cl(w0:World)(vars:Int)(ts:List Tx)(err:Int)(e:Ending)(w':World):Prop:=∃ a n c,e = .returned (.tuple #[BS vars a n c,.int .i64 err])/\Ext w0 w'/\TmO w' w0.heap.size a n c ts
def Ah(vars:Int)(a:Option Addr)(n c:Nat):List Value:=[.int .i64 vars,.slice a n c]
theorem Am(vars:Int)(a:Option Addr)(n c:Nat):∀ v∈Ah vars a n c,v.oneCell'=true:=by
 intro v b;simp only[Ah,qj,rI,vQ]at b;rcases b with rfl|rfl <;> rfl
def okW(l:List Pl.Tm):Prop:=l.length<=4096/\∀ t r,l=t :: r->A3 t.1=true
def Fw(w0:World)(vars:Nat)(l:List Pl.Tm)(e:Ending)(w':World):Prop:=∃ l',l'.Perm l/\((Pl.desc l'/\okW l'/\Cl w0 vars (wrT vars l') 0 e w')\/((4096<l.length\/(Pl.desc l'/\¬ okW l'))/\Cl w0 0 [] 2 e w'))
theorem B6{vars:Nat}{l:List Pl.Tm}(ca:AM w0)(ad:Ext w0 w)(V:C1 w w0.heap.size a n c l)(hv:vars<=6)(hb:Bp l)(bm:∀ t∈l,Ek t.2)(hn:n<=1000000) :
 Calls prog 69 #[.int .i64 vars,.slice a n c] w (Fw w0 vars l):=by
 have bl:=fun(j:World) (f:Ext w j)=>qh (GV (V.ext f) hb hn);have bL:=qh bm;have bG:=qh V.len;have b4:=qh (fun g hg=>(by obtain⟨ac,h1,_⟩:=V;exact h1.lt hg:w0.heap.size<=g/\g<w.heap.size):∀ g,blk a=some g->w0.heap.size<=g/\g<w.heap.size);have bs:=GV V hb hn;have cb:AM w0:=ca;have d2:=V.len
 go_enter func69,ntmps69
 go_upto_region 1 with(fail)
 refine AP ?_;intro w1 ag b8 ck;have hR:Arr w1 w.heap.size 28 (Ah 0 none 0 0):=b8;have b0:=bl w1 ag;have h01:=ad.trans ag;have d4:(Ah 0 none 0 0).toArray=#[.int .i64 0,.slice none 0 0]:=rfl;clear b8 ck bl bs bm V;by_cases cT:4096<n
 · go_wp2_with(refine Aa (vs:=Ah 0 none 0 0) rfl rfl rfl rfl rfl Ad hR rfl (Am _ _ _ _) ?_;intro w9 I q)
   refine py (Ao rfl Ad rfl rfl I) rfl ?_;exact⟨l,vJ _,Or.inr ⟨Or.inl (by have:=bG.out;omega),none,0,0,rfl,h01.grownR q ad.size,TmO.nil _ _⟩⟩
 · go_wp2_with fail
   refine b0.out.mono ?_;rintro e w2 ⟨rfl,D,O,ar,T,a6⟩;have HP:=qh (And.intro O ar);have M:Arr w2 w.heap.size 28 (Ah 0 none 0 0):=hR.kept a6 (fun he=>by have:=(b4.out _ he.symm).2;omega);have h02:Ext w0 w2:=h01.grown a6 (fun k hk=>(b4.out k hk).1);have bv:w.heap.size<w2.heap.size:=M.lt;have C:=T.len;have bo:Hid (∀ t∈D,Ek t.2):=qh (fun t ht=>bL.out t (O.mem_iff.1 ht));clear O ar b0 a6 hR ag;have ab:=ad.size;have cl:n=0\/(∃ t r,D=t :: r/\A3 t.1=true)\/(∃ t r,D=t :: r/\A3 t.1=false):=by
    rcases pT n with h|h
    · exact Or.inl h
    · right;cases D with
      | nil=>simp at C;omega
      | cons t r=>cases bn:A3 t.1 with
       | true=>exact Or.inl ⟨t,r,rfl,bn⟩
       | false=>exact Or.inr ⟨t,r,rfl,bn⟩
   have R:n=0->okW D:=fun h=>⟨by omega,fun t r e=>by rw[e]at C;simp at C;omega⟩;have a4:0<n->∃ g,a=some ⟨g,0,none⟩/\∀ t r,D=t :: r->∀ j,Ext w2 j->Hid (Calls prog 68 #[.slice (some ⟨g,0,none⟩) 6 6] j fun e w'=>e = .returned (.bool (A3 t.1))/\Qt j w'):=by
    intro h0;obtain⟨ac,h1,h2,h3,h4⟩:=T;obtain⟨g,rfl,d1,a6⟩:=h1.place h0;refine⟨g,rfl,fun t r Y j f=>qh ?_⟩;obtain⟨s,a',n',c',b,m,d,e1,e2,e3⟩:=h4 0 h0;have a7:=h1.slk (by omega);obtain⟨b',cQ,e4,hc⟩:=a7.rd h0;simp only[pz,qq,qO]at e4;obtain⟨rfl,rfl⟩:=e4;rw[Y]at e1 e2;have ch:SlI w2 (some ⟨g,0,none⟩) 6 6 t.1:=by
     refine⟨by simpa using e2,lrf _,by unfold maxLen;omega,fun _=>⟨g,0,rfl,fun i hi => ?_⟩⟩;have h5:=hc 0 h0 i (by omega);rw[e1]at h5;rw[r7]at h5;rw[h5];have:((t :: r).getD 0 ([],0))=t:=rfl;rw[this]at e2 |-;have h1:(As t.1 s a' n' c' b m d).getD i undef=(t.1.map (Value.int .i64)).getD i undef:=by
      unfold As;rw[gqq,pO (by simp[e2];omega),<-gqq]
     rw[h1]
    exact(E6 (ch.ext f)).mono fun _ _ h=>⟨h.1,h.2 ▸ Qt.refl _⟩
   rcases cl with h0|⟨t,r,Y,P⟩|⟨t,r,Y,P⟩
   · have bk:=R h0;have W:=qh bk;clear bk R a4;have bj:¬ ((0:Int)<(n:Int)):=by omega
     clear h0;have hY:=fun j:World=>Arr.new j 28 (Ah 0 none 0 0)
     go_upto_region 7 with(first
      | (refine E0 rfl rfl (by kernel_rfl) F5 rfl rfl (by omega) (by unfold maxLen;omega) ?_;intro w4 J Z)
      | (refine Aa (vs:=Ah vars (some ⟨w2.heap.size,0,none⟩) n n) rfl rfl rfl rfl rfl Ad (hY _) rfl (Am _ _ _ _) ?_;intro w5 B a2))
     have p:Ext w4 w5:=((Ext.refl w4).alloc _).grownR a2 (lrf _);have F:=Z.trans p;have K:AR w5 w0.heap.size 26 2 (some ⟨w2.heap.size,0,none⟩) n n (List.replicate n (tmL ⟨#[]⟩ none 0 0)):=(J.ext p).mono h02.size;have U:w4.heap.size≠w2.heap.size:=by have:=(J.lt (g:=w2.heap.size) rfl).2;omega
     obtain⟨PB,a0⟩:∃ x,w4.heap.size=x:=⟨_,rfl⟩;obtain⟨G,hG⟩:∃ x,w2.heap.size=x:=⟨_,rfl⟩;rw[a0]at B U;rw[hG]at B U K;rw[a0];clear hY J Z p a2;obtain⟨ac,hK,hU,ce,a3⟩:=T;have b3:=qh a3;have ba:=hK.slk (by omega);clear a3 hU hK;go_wp2
     go_loopw[35] (fun iv wr=>∃ (k:Nat) (rs:List (List Value)),iv = .int .i64 k/\k<=n/\Ext w2 wr/\AR wr w0.heap.size 26 2 (some ⟨G,0,none⟩) n n rs/\Arr wr PB 28 (Ah vars (some ⟨G,0,none⟩) n n)/\Hid (∀ i,i<k->I5 wr w0.heap.size (rs.getD i []) ((wrT vars D).getD i tm0))) (fun iv _=>n-(intOf iv).toNat)
     case atStart=>exact⟨0,_,rfl,pE _,F,K,B,qh (fun i hi=>absurd hi (by omega))⟩
     case round =>
      clear K B F;obtain⟨k,rs,rfl,hk,hE,V,hP,HC⟩:=hrel;by_cases N:k<n
      · exfalso;omega
      · have ao:k=n:=by omega
        subst ao;have q0:=hP.c 0 rfl;have q1:=hP.c 1 rfl;have a1:=M.ext hE;have cg:(Ah vars (some ⟨G,0,none⟩) k k).toArray=#[.int .i64 vars,.slice (some ⟨G,0,none⟩) k k]:=rfl
        go_wp2_with(refine Aa (vs:=Ah vars (some ⟨G,0,none⟩) k k) rfl rfl rfl rfl rfl Ad a1 rfl (Am _ _ _ _) ?_;intro w9 I q)
        refine py (Ao rfl Ad rfl rfl I) rfl ?_;have ak:w.heap.size≠G:=by omega
        refine⟨D,HP.out.1,Or.inl ⟨HP.out.2,W.out,_,k,k,rfl,(h02.trans hE).grownR q ab,rs,V.kept q (Or.inr (by simpa[blk]using fun h=>ak h.symm)),by simp[wrT,C],fun i hi => ?_⟩⟩;obtain⟨s9,a9,n9,c9,e1,e2,e3⟩:=HC.out i hi;exact⟨s9,a9,n9,c9,e1,e2,e3.kept q (Or.inr (FE e3 a1 (by decide)))⟩
   · have ap:0<n:=by rw[<-C,Y];simp
     obtain⟨g,rfl,H⟩:=a4 ap;have z:=H t r Y;clear a4;have W:Hid (okW D):=qh ⟨by omega,fun t' r' e=>by rw[Y]at e;cases e;exact P⟩;have bj:(0:Int)<(n:Int):=by omega
     rw[P]at z;clear H R P Y
     go_wp2_with fail
     refine(z _ (Ext.refl _)).out.mono ?_;rintro e w3 ⟨rfl,L⟩;have T:=T.ext L.ext;have M:=M.ext L.ext;have h02:=h02.trans L.ext;have bv:w.heap.size<w3.heap.size:=M.lt;clear z L;generalize (some (⟨g,0,none⟩:Addr))=A at *
     have hY:=fun j:World=>Arr.new j 28 (Ah 0 none 0 0)
     go_upto_region 7 with(first
      | (refine E0 rfl rfl (by kernel_rfl) F5 rfl rfl (by omega) (by unfold maxLen;omega) ?_;intro w4 J Z)
      | (refine Aa (vs:=Ah vars (some ⟨w3.heap.size,0,none⟩) n n) rfl rfl rfl rfl rfl Ad (hY _) rfl (Am _ _ _ _) ?_;intro w5 B a2))
     have p:Ext w4 w5:=((Ext.refl w4).alloc _).grownR a2 (lrf _);have F:=Z.trans p;have K:AR w5 w0.heap.size 26 2 (some ⟨w3.heap.size,0,none⟩) n n (List.replicate n (tmL ⟨#[]⟩ none 0 0)):=(J.ext p).mono h02.size;have U:w4.heap.size≠w3.heap.size:=by have:=(J.lt (g:=w3.heap.size) rfl).2;omega
     obtain⟨PB,a0⟩:∃ x,w4.heap.size=x:=⟨_,rfl⟩;obtain⟨G,hG⟩:∃ x,w3.heap.size=x:=⟨_,rfl⟩;rw[a0]at B U;rw[hG]at B U K;rw[a0];clear hY J Z p a2;obtain⟨ac,hK,hU,ce,a3⟩:=T;have b3:=qh a3;have ba:=hK.slk (by omega);clear a3 hU hK;go_wp2
     go_loopw[35] (fun iv wr=>∃ (k:Nat) (rs:List (List Value)),iv = .int .i64 k/\k<=n/\Ext w3 wr/\AR wr w0.heap.size 26 2 (some ⟨G,0,none⟩) n n rs/\Arr wr PB 28 (Ah vars (some ⟨G,0,none⟩) n n)/\Hid (∀ i,i<k->I5 wr w0.heap.size (rs.getD i []) ((wrT vars D).getD i tm0))) (fun iv _=>n-(intOf iv).toNat)
     case atStart=>exact⟨0,_,rfl,pE _,F,K,B,qh (fun i hi=>absurd hi (by omega))⟩
     case round =>
      clear K B F;obtain⟨k,rs,rfl,hk,hE,V,hP,HC⟩:=hrel;by_cases N:k<n
      · have al:=ba.ext hE;obtain⟨bb,cQ,ha,_⟩:=al.rd (by omega)
        first
         | subst ha
         | (simp only[pz,qq,qO]at ha;obtain⟨rfl,rfl⟩:=ha)
        obtain⟨sx,ax,nx,cx,bx,mx,dx,aa,h6,aq⟩:=b3.out k N;have HM:Hid ((wrT vars D).getD k tm0=(txt (D.getD k ([],0)).2,(D.getD k ([],0)).1.take vars)):=qh (by simp[wrT,C,N]);have b5:Hid (Ek (D.getD k ([],0)).2):=qh (bo.out _ (by simp[C,N]));generalize D.getD k ([],0)=t at *
        obtain⟨te,tq⟩:=t;obtain⟨x0,x1,x2,x3,x4,x5,b7⟩:=Bt h6;simp only at b7 aa HM aq b5;subst b7;have hY:=Arr.new wr 92 (As [0,0,0,0,0,0] false none 0 0 none 0 0)
        go_upto_region 10 with(first
         | (refine Bg rfl rfl At rfl al N ?_;rw[aa])
         | (refine Aa (vs:=(As [x0,x1,x2,x3,x4,x5] sx ax nx cx bx mx dx)) rfl rfl rfl rfl rfl At hY rfl AI ?_;intro w6 S bg))
        have ah:Ext wr w6:=((Ext.refl wr).alloc _).grownR bg (lrf _);have cR:wr.heap.size<w6.heap.size:=S.lt;obtain⟨X,hX⟩:∃ x,wr.heap.size=x:=⟨_,rfl⟩;rw[hX]at S;rw[hX];have a7:=MU S rfl;clear hY bg aa h6 al
        go_upto_region 11 with(refine C6 (n:=vars) rfl rfl underlying24 Dt rfl rfl rfl (by omega) (by unfold maxLen;omega) ?_;intro w7 bd a5)
        have hA7:=Own.arr bd;have aA:=a7.ext a5;have zc:w7.cell? ⟨X,0,none⟩=some (.int .i64 x0):=(S.ext a5).cell (i:=0) (by simp[As])
        go_upto_region 12 with(refine W2 (sT:=24) rfl rfl underlying24 Dt rfl rfl hA7 (by simp) aA hv (Cc _) ?_;intro w8 hA8 bi)
        have a8:Ext w6 w8:=a5.grownR bi (lrf _);have y:=ah.trans a8;have av:=hE.trans y;have bf:=V.ext y;have aj:=hP.ext y;have o:=S.ext a8;have bz:Hid (∀ i,i<k->I5 w8 w0.heap.size (rs.getD i []) ((wrT vars D).getD i tm0)):=qh fun i hi=>(HC.out i hi).ext y;have ay:=aq.ext av;have b6:=h02.trans hE
        have b1:Hid (Own w8 w0.heap.size 3 (some ⟨w6.heap.size,0,none⟩) vars vars (([x0,x1,x2,x3,x4,x5].take vars).map (Value.int .i64))):=qh (by
         have h1:Vx w8 w6.heap.size ([x0,x1,x2,x3,x4,x5].take vars):=by unfold Vx;rw[pg];exact hA8
         have h2:=h1.own (base:=w0.heap.size) (by have:=(b6.trans ah).size;omega) (by unfold maxLen;rw[qg];simp;omega);have h3:([x0,x1,x2,x3,x4,x5].take vars).length=vars:=by rw[qg];simp;omega
         rw[h3]at h2
         exact h2)
        obtain⟨E,bR⟩:∃ x,w6.heap.size=x:=⟨_,rfl⟩;rw[bR]at b1 |-;have bK:=qh (bf.len (by omega));have bt:=fun(j:World) (f:Ext w8 j)=>qh (b5.out j (.agg #[.bool sx,.slice ax nx cx,.bool false,.slice bx mx dx]) (cb.ext ((b6.trans y).trans f)) ⟨Al sx ax nx cx false bx mx dx,rfl,ay.ext f⟩);clear zc bd hA7 hA8 bi a5 ah a8 a7 aA S V hP hE HC aq y;have c0:=o.c 0 rfl;have c1:=o.c 1 rfl;have c2:=o.c 2 rfl;have c3:=o.c 3 rfl;have c4:=o.c 4 rfl;have c5:=o.c 5 rfl;have c6:=o.c 6 rfl;have c7:=o.c 7 rfl;have c8:=o.c 8 rfl;have c9:=o.c 9 rfl
        have q0:=aj.c 0 rfl;have q1:=aj.c 1 rfl;clear o ay;have b2:=fun(j:World) (f:Ext w8 j)=>qh (And.intro (f.cell c0) (And.intro (f.cell c1) (And.intro (f.cell c2) (And.intro (f.cell c3) (And.intro (f.cell c4) (And.intro (f.cell c5) (And.intro (f.cell c6) (And.intro (f.cell c7) (And.intro (f.cell c8) (And.intro (f.cell c9) (And.intro (f.cell q0) (f.cell q1))))))))))))
        refine B0
         [hdP PB 1,hdS (some ⟨G,0,none⟩) n n,hdI k,hdP X 6,he (.agg #[.bool sx,.slice ax nx cx,.bool false,.slice bx mx dx]),hp (fun v j=>v = .string ⟨(txt tq).toArray⟩),hdS (some ⟨E,0,none⟩) vars vars,hp (fun v j=>v = .agg #[.string ⟨(txt tq).toArray⟩,.slice (some ⟨E,0,none⟩) vars vars])]
         ⟨fun _ _ _ _ h=>h,fun _ _ _ _ h=>h,trivial⟩ ⟨?o0,?o1,?o2,?o3,?o4,?o5,?o6,?o7,trivial⟩ ?fin
        case o0=>exact ofa (d:=1)
        case o1=>exact ol
        case o2 | o6=>exact omv
        case o3=>exact ofa (d:=6)
        case o4=>exact ol4
        case o5 =>
         refine Ag rfl fun ρ j f bq cc h => ?_;have e1:_=_:=h.2.1;obtain⟨cp,cq,cr,cs,ct,cv,cy,cz,cA,cP,cn,co⟩:=(b2 j f).out;refine⟨124,#[.agg #[.bool sx,.slice ax nx cx,.bool false,.slice bx mx dx]],by go_simp,((bt j f).out).mono ?_⟩;rintro e w' ⟨rfl,bN⟩;exact⟨_,rfl,bN,rfl⟩
        case o7 =>
         refine AE rfl ?_;intro ρ j hp f h;have bq:=hp.const;have cc:=hp.func;obtain⟨v0,e0,rfl⟩:=h.1;have e1:_=_:=h.2.1;obtain⟨cp,cq,cr,cs,ct,cv,cy,cz,cA,cP,cn,co⟩:=(b2 j f).out;exact⟨_,j,by go_simp,Ext.refl _,rfl⟩
        case fin =>
         intro j f;rintro _ rfl;rintro _ rfl;change wpList _ _ _ _ _ _;simp only[Ci];have ai:=bf.ext f;have d0:(k:Int)<n:=by omega
         have d3:(tmL ⟨(txt tq).toArray⟩ (some ⟨E,0,none⟩) vars vars).toArray=#[.string ⟨(txt tq).toArray⟩,.slice (some ⟨E,0,none⟩) vars vars]:=rfl
         go_wp2_with(refine Id (vs:=tmL ⟨(txt tq).toArray⟩ (some ⟨E,0,none⟩) vars vars) rfl rfl (by omega) A4 rfl rfl rfl ai N rfl (CI _ _ _ _) ?_;intro d5 bp Q)
         go_roundw
         case rel =>
          have b9:Own j w0.heap.size 3 (some ⟨E,0,none⟩) vars vars (([x0,x1,x2,x3,x4,x5].take vars).map (Value.int .i64)):=b1.out.ext f;refine⟨k+1,_,by go_num,by omega,(av.trans f).grownR Q (vj hG),bp,(aj.ext f).kept Q (fun he=>U (by simpa using he)),qh fun i hi => ?_⟩;by_cases cd:i=k
          · subst cd;rw[HM.out,gqq,tK (by rw[bK.out];exact N)];exact⟨_,_,vars,vars,rfl,rfl,b9.kept Q (Or.inr (II b9 ai (by decide)))⟩
          · rw[gqq,List.getElem?_set_ne (by omega),<-gqq];obtain⟨s9,a9,n9,c9,e1,e2,e3⟩:=(bz.out i (by omega)).ext f;exact⟨s9,a9,n9,c9,e1,e2,e3.kept Q (Or.inr (II e3 ai (by decide)))⟩
         case measure=>simp[intOf];omega
      · have ao:k=n:=by omega
        subst ao;have q0:=hP.c 0 rfl;have q1:=hP.c 1 rfl;have a1:=M.ext hE;have cg:(Ah vars (some ⟨G,0,none⟩) k k).toArray=#[.int .i64 vars,.slice (some ⟨G,0,none⟩) k k]:=rfl
        go_wp2_with(refine Aa (vs:=Ah vars (some ⟨G,0,none⟩) k k) rfl rfl rfl rfl rfl Ad a1 rfl (Am _ _ _ _) ?_;intro w9 I q)
        refine py (Ao rfl Ad rfl rfl I) rfl ?_;have ak:w.heap.size≠G:=by omega
        refine⟨D,HP.out.1,Or.inl ⟨HP.out.2,W.out,_,k,k,rfl,(h02.trans hE).grownR q ab,rs,V.kept q (Or.inr (by simpa[blk]using fun h=>ak h.symm)),by simp[wrT,C],fun i hi => ?_⟩⟩;obtain⟨s9,a9,n9,c9,e1,e2,e3⟩:=HC.out i hi;exact⟨s9,a9,n9,c9,e1,e2,e3.kept q (Or.inr (FE e3 a1 (by decide)))⟩
   · have ap:0<n:=by rw[<-C,Y];simp
     obtain⟨g,rfl,H⟩:=a4 ap;have z:=H t r Y;clear a4;have W:Hid (¬ okW D):=qh fun h=>by have:=h.2 t r Y;rw[P]at this;cases this
     have bj:(0:Int)<(n:Int):=by omega
     rw[P]at z;clear H R P Y
     go_wp2_with fail
     refine(z _ (Ext.refl _)).out.mono ?_;rintro e w3 ⟨rfl,L⟩;have bW:=M.ext L.ext
     go_wp2_with(refine Aa (vs:=Ah 0 none 0 0) rfl rfl rfl rfl rfl Ad bW rfl (Am _ _ _ _) ?_;intro w9 I q)
     refine py (Ao rfl Ad rfl rfl I) rfl ?_;exact⟨D,HP.out.1,Or.inr ⟨Or.inr ⟨HP.out.2,W.out⟩,none,0,0,rfl,(h02.trans L.ext).grownR q ab,TmO.nil _ _⟩⟩
open Classical in
noncomputable def rdP (vars:Int) (ts:List Tx):Option (List Pl.Tm):=if ts.length<=4096/\∀ t r,ts=t :: r->A3 t.2=true then rdWF vars ts else none
theorem Db{ts:List Tx}(Y:AM w)(h:AH w a n c ts)(S:∀ t∈ts,t.1.length<=570) :
 Calls prog 84 #[.agg #[.int .i64 vars,.slice a n c]] w (X4 w (rdP vars ts)):=by
 have g:=h.len;have d:=fun(J:World) (O:Ext w J) (Z:n<=4096)=>qh (IG (vars:=vars) (Y.ext O) (h.ext O) S Z);have A:¬ n<=4096->rdP vars ts=none:=fun h=>by unfold rdP;exact pC (fun h'=>h (by omega))
 obtain⟨V,P,_,F⟩:=h;have a0:=P.le
 go_enter func84,ntmps84
 go_upto_region 1 with(fail)
 refine AP ?_;intro w0 x v H;have p0:=v.c 0 rfl;have U:=v.c 1 rfl;clear v H S;by_cases Q:4096<n
 · have m:=qh (A (by omega));go_wp2
   go_ret2
   rw[m.out];exact⟨none,0,0,rfl,x,Bn.nil _⟩
 · have d:=d w0 x (by omega);clear A
   go_wp2_with fail
   refine d.out.mono ?_;rintro e I ⟨L,T,N,rfl,z,k⟩;have U:=z.cell U;have i:=x.trans z;cases b:rdWF vars ts with
   | none =>
    have m:Hid (rdP vars ts=none):=qh (by unfold rdP;rw[b];split <;> rfl);rw[b]at k;clear d b;go_wp2
    go_ret2
    rw[m.out];exact⟨none,0,0,rfl,i,Bn.nil _⟩
   | some l =>
    rw[b]at k;simp only[pY,vC]at k |-;rcases pT n with h0|h0
    · have m:Hid (rdP vars ts=some l):=qh (by
       unfold rdP
       rw[b,pP ⟨by omega,fun t r e=>by rw[e]at g;simp at g;omega⟩])
      have E:¬ ((0:Int)<(n:Int)):=by omega
      clear d b;go_wp2
      go_ret2
      rw[m.out];exact⟨L,T,N,rfl,i,k⟩
    · have E:(0:Int)<(n:Int):=by omega
      obtain⟨M,B,rfl,C⟩:=(P.ext i).rd h0;obtain⟨s,W,nx,X,q,_,G⟩:=F 0 h0;have o:=C 0 h0 1 (by omega);rw[q]at o;have R:I.cell? ⟨M,B+1,none⟩=some (.slice W nx X):=o;have f:=C 0 h0 0 (by omega);rw[q]at f;have D:I.cell? ⟨M,B,none⟩=some (.string s):=by simpa using f
      have p:=fun(J:World) (F:Ext I J)=>qh (E6 ((G.ext i).ext F));have K:Hid (∀ t r,ts=t :: r->t.2=(ts.getD 0 tm0).2):=qh (fun t r e=>by rw[e];rfl);generalize (ts.getD 0 tm0).2=xs at *
      cases j:A3 xs with
      | true =>
       have m:Hid (rdP vars ts=some l):=qh (by
        unfold rdP
        rw[b,pP ⟨by omega,fun t r e=>by rw[K.out t r e];exact j⟩])
       rw[j]at p;clear d b j C o f
       go_wp2_with fail
       refine(p _ (Ext.refl _)).out.mono ?_;rintro e w2 ⟨rfl,rfl⟩;go_wp2
       go_ret2
       rw[m.out];exact⟨L,T,N,rfl,i,k⟩
      | false =>
       have m:Hid (rdP vars ts=none):=qh (by
        unfold rdP;rw[pC];rintro⟨_,h2⟩;cases y:ts with
        | nil=>rw[y]at g;simp at g;omega
        | cons t r =>
         have h3:=h2 t r y;rw[K.out t r y,j]at h3
         cases h3)
       rw[j]at p;clear d b j C o f
       go_wp2_with fail
       refine(p _ (Ext.refl _)).out.mono ?_;rintro e w2 ⟨rfl,rfl⟩;go_wp2
       go_ret2
       rw[m.out];exact⟨none,0,0,rfl,i,Bn.nil _⟩
theorem D7{ts:List Tx}(l:AM w)(h:AH w a n c ts)(m:∀ t∈ts,t.1.length<=570) :
 Calls prog 27 #[.agg #[.int .i64 vars,.slice a n c]] w fun e p=>e = .returned (.bool (rdP vars ts).isSome)/\Ext w p:=by
 have f:=fun(q:World) (j:Ext w q)=>qh (Db (vars:=vars) (l.ext j) (h.ext j) m);obtain⟨o,k⟩:∃ o,rdP vars ts=o:=⟨_,rfl⟩;rw[k]at f |-;clear k
 go_enter func27,ntmps27
 go_upto_region 1 with(fail)
 refine AP ?_;intro z d b i;have x:=b.c 0 rfl;have y:=b.c 1 rfl;clear b i
 go_wp2_with fail
 refine(f _ d).out.mono ?_;rintro e A ⟨r,v,s,rfl,g,_⟩;go_wp2;go_ret;exact⟨rfl,d.trans g⟩
theorem Sp(a d:Nat):a∣a*(d/Nat.gcd a d):=Nat.dvd_mul_right _ _
theorem Sq(a d:Nat):d∣a*(d/Nat.gcd a d):=by
 have h1:a*(d/Nat.gcd a d)=a/Nat.gcd a d*d:=by
  rw[<-wR _ (sR a d),pM a d,wR _ (sZ a d),pM]
 rw[h1];exact tN _ _
theorem J8:∀ (l:List Rat) (a:Nat),a∣l.foldl (fun a q=>a*(q.den/Nat.gcd a q.den)) a/\∀ q∈l,q.den∣l.foldl (fun a q=>a*(q.den/Nat.gcd a q.den)) a
 | [],a=>⟨Nat.dvd_refl _,by simp⟩
 | q :: r,a=>by
  have ih:=J8 r (a*(q.den/Nat.gcd a q.den));refine⟨tT (Sp a q.den) ih.1,fun p hp => ?_⟩;rcases qj.1 hp with rfl|hp
  · exact tT (Sq a p.den) ih.1
  · exact ih.2 p hp
theorem GX{l:List Rat}{q:Rat}(h:q∈l):q.den∣Bk l:=(J8 l 1).2 q h
structure Cj(p:List Pl.Tm):Prop where
 atE:∀ e,Pl.coef p e≠0->Ek (Pl.coef p e)/\e.length=6/\∀ x∈e,0<=x/\x<=1099511627776
 len:p.length<=1000000
theorem Kj{out p:List Pl.Tm}(b:Pl.Nrm out)(a:∀ e,Pl.coef out e=Pl.coef p e){t:Pl.Tm}(c:t∈out):Pl.coef p t.1=t.2:=by rw[<-a];exact Pl.coef_mem b.nodup c
theorem Cj.out{out p:List Pl.Tm}(h:Cj p)(c:Pl.Nrm out)(d:∀ e,Pl.coef out e=Pl.coef p e):Bp out/\(∀ t∈out,Ek t.2)/\out.length<=1000000:=by
 have b:∀ t∈out,Pl.coef p t.1≠0:=fun t a=>by rw[Kj c d a];exact c.nz t a
 refine⟨fun t a=>(h.atE t.1 (b t a)).2,fun t a => ?_,?_⟩
 · have:=(h.atE t.1 (b t a)).1;rw[Kj c d a]at this;exact this
 · refine pD ?_ h.len
   have h1:=Pl.nodup_le (out.map (·.1)) (p.map (·.1)) c.nodup (fun e he=>by
    obtain⟨t,a,rfl⟩:=pU.1 he;obtain⟨s,f,e⟩:=Pl.coef_present (b t a);rw[<-e]
    exact ri f)
   simpa using h1
theorem Oz(h:AR w b e k a n c rows)(f:Arr w p t cs)(o:t≠e):blk a≠some p:=by
 rcases h.2.2 with⟨d,_⟩|⟨g,j,l,d,_,m,_⟩
 · simp only[pI]at d;rw[d.1];simp[blk]
 · simp only[pI]at d;rw[d.1];intro he;have i:g=p:=by simpa[blk]using he
   subst i;unfold Arr at f;rw[m]at f;simp only[pz,rW]at f;exact o f.2.1.symm
theorem TmO.keptA{ts:List Tx}(h:TmO w base a n c ts)(e:Arr w R 28 cs)(f:w.grownBy w' (some R)):TmO w' base a n c ts:=by
 obtain⟨b,h1,h2,h3⟩:=h;refine⟨b,h1.kept f (Or.inr (Oz h1 e (by decide))),h2,fun i m => ?_⟩;obtain⟨s,g,o,j,k,l,d⟩:=h3 i m;exact⟨s,g,o,j,k,l,d.kept f (Or.inr (FE d e (by decide)))⟩
theorem Kk(t:Pl.Tm)(h6:t.1.length=6):∀ (l:List Pl.Tm),(∀ s∈l,s.1.length=6)->Pl.desc l->∃ a,a.Perm (t :: l)/\Pl.desc a
 | [],_,_=>⟨[t],vJ _,List.pairwise_singleton _ _⟩
 | s :: r,hl,hd=>by
  have hd2:=qY.1 hd;by_cases h:0<=Pl.ordE t.1 s.1
  · refine⟨t :: s :: r,vJ _,qY.2 ⟨fun u hu => ?_,hd⟩⟩;rcases qj.1 hu with rfl|hu
    · exact h
    · have h1:=hd2.1 u hu;by_cases h2:Pl.ordE t.1 s.1=0
      · rw[Pl.ordE_eq (by rw[h6,hl s (by simp)]) h2];exact h1
      · by_cases h3:Pl.ordE s.1 u.1=0
        · rw[<-Pl.ordE_eq (by rw[hl s (by simp),hl u (by simp[hu])]) h3];exact h
        · exact vk (Pl.ordE_trans (b:=s.1) (by omega) (by omega))
  · obtain⟨a,h1,h2⟩:=Kk t h6 r (fun u hu=>hl u (by simp[hu])) hd2.2;refine⟨s :: a,(List.Perm.cons s h1).trans (List.Perm.swap t s r),qY.2 ⟨fun u hu => ?_,h2⟩⟩;rcases qj.1 (h1.mem_iff.1 hu)with rfl|hu
    · have:=Pl.ordE_anti s.1 u.1;omega
    · exact hd2.1 u hu
theorem Im:∀ (l:List Pl.Tm),(∀ s∈l,s.1.length=6)->∃ b,b.Perm l/\Pl.desc b
 | [],_=>⟨[],vJ _,List.Pairwise.nil⟩
 | t :: r,h=>by
  obtain⟨l1,h1,h2⟩:=Im r (fun s a=>h s (by simp[a]));obtain⟨c,h3,h4⟩:=Kk t (h t (by simp)) l1 (fun s a=>h s (by simp[h1.mem_iff.1 a])) h2;exact⟨c,h3.trans (List.Perm.cons t h1),h4⟩
noncomputable def cnP (p:List Pl.Tm):List Pl.Tm:=Classical.epsilon (fun l=>Pl.Canon 6 l/\∀ e,Pl.coef l e=Pl.coef p e)
theorem P4{p l:List Pl.Tm}(h:Pl.Canon 6 l)(a:∀ e,Pl.coef l e=Pl.coef p e):cnP p=l:=by
 have h1:Pl.Canon 6 (cnP p)/\∀ e,Pl.coef (cnP p) e=Pl.coef p e:=tg (p:=fun l=>Pl.Canon 6 l/\∀ e,Pl.coef l e=Pl.coef p e) ⟨l,h,a⟩;exact Pl.canon_ext h1.1 h (fun e=>by rw[h1.2,a])
theorem Fe{p out l:List Pl.Tm}(d:Pl.Nrm out)(b:∀ e,Pl.coef out e=Pl.coef p e)(hp:l.Perm out)(c:Pl.desc l):cnP p=l:=by
 have a:=d.perm hp.symm;exact P4 (Pl.canon_of_sorted a.len a.nz c a.nodup) (fun e=>by rw[Pl.coef_perm hp,b])
open Classical in
noncomputable def resQ (vars:Int) (p:List Pl.Tm):Int×List Tx×Int:=if okW (cnP p)then(vars,wrT vars.toNat (cnP p),0)else(0,[],2)
def Cd(w:World)(r:Int×List Tx×Int)(e:Ending)(w':World):Prop:=Cl w r.1 r.2.1 r.2.2 e w'
theorem Fw.q{vars:Nat}{out p:List Pl.Tm}{e:Ending}(h:Fw w0 vars out e w')(b:Pl.Nrm out)(c:∀ e,Pl.coef out e=Pl.coef p e):Cd w0 (resQ vars p) e w':=by
 obtain⟨l,h1,h2⟩:=h;unfold resQ Cd;rcases h2 with⟨d,a,g⟩|⟨a,g⟩
 · rw[Fe b c h1 d,pP a];exact g
 · have f:¬ okW (cnP p):=by
    rcases a with a|⟨d,a⟩
    · obtain⟨i,h3,h4⟩:=Im out b.len;rw[Fe b c h3 h4];intro h5;have:=h5.1;rw[h3.length_eq]at this;omega
    · rw[Fe b c h1 d];exact a
   rw[pC f];exact g
theorem Kr{e b i:World}{r:Int×List Tx×Int}(f:Ext w e)(d:Ext e b)(j:TmO b e.heap.size a n c r.2.1)(k:Arr b R 28 cs)(g:b.grownBy i (some R))(l:w.heap.size<=R):Cd w r (.returned (.tuple #[BS r.1 a n c,.int .i64 r.2.2])) i :=
 ⟨a,n,c,rfl,(f.trans d).grownR g l,(j.mono f.size).keptA k g⟩
theorem St{ls:List (List Pl.Tm)}(a:k<ls.length):(ls.take (k+1)).flatten=(ls.take k).flatten ++ ls.getD k []:=by
 rw[oH,List.flatten_append];simp[a]
theorem P7{ls:List (List Pl.Tm)}(a:k<ls.length):(ls.take k).flatten ++ (ls.getD k [] ++ (ls.drop (k+1)).flatten)=ls.flatten:=by
 have h1:ls.take k ++ (ls.getD k [] :: ls.drop (k+1))=ls:=by
  have:ls.getD k [] :: ls.drop (k+1)=ls.drop k:=by
   rw[qo a,gqq,oO a];rfl
  rw[this,rB]
 conv=>rhs;rw[<-h1]
 simp
def Xc(w0:World)(r:Nat)(p:List Pl.Tm)(wr:World):Prop:=∃ l,Ext w0 wr/\Dz wr r l/\Hid (∀ e,Pl.coef l e=Pl.coef p e)/\l.length<=p.length
def X7(w0:World)(r it g c:Nat)(l:List Pl.Tm)(v:Value)(wr:World):Prop :=
 ∃ seen n rows,v = .slice (some ⟨g,0,none⟩) n c/\Ext w0 wr/\Dz wr r l/\AN wr it r l.length seen/\seen.Nodup/\(∀ i∈seen,i<l.length)/\Er wr w0.heap.size 92 10 g n c rows /\
  (Pl.picked l seen).length=n/\Hid (∀ i,i<n->BB wr (rows.getD i []) ((Pl.picked l seen).getD i ([],0)))
theorem Ff{ls:List (List Pl.Tm)}(hT:AM w)(h:GU w a n c ls)(hn:n<=1000)(hN:ls.flatten.length<=1000000)(hB:∀ p s,p ++ s=ls.flatten->∀ e,Pl.RB 2400 (Pl.coef p e))(dl:∀ t∈ls.flatten,Pl.RB 2400 t.2) :
 Calls prog 70 #[.slice a n c] w (fun e w'=>∃ cp,J4 w cp e w'/\Pl.Nrm cp/\∀ e,Pl.coef cp e=Pl.coef ls.flatten e):=by
 obtain⟨cs,hS,hl,hq⟩:=h;have HQ:=qh hq;have HB:=qh hB;have eC:=qh dl;have HL:=qh hl;have HN:=qh hN;clear hq hB dl hl hN
 go_enter func70,ntmps70
 go_upto_region 2 with(refine GJ rfl rfl ?_;intro w1 dA dq ev)
 go_wp2
 go_loopw[14] (fun iv wr=>∃ k:Nat,iv = .int .i64 k/\k<=n/\Xc w w.heap.size (ls.take k).flatten wr) (fun iv _=>n-(intOf iv).toNat)
 case atStart=>exact⟨0,rfl,pE _,[],dq,Dz.new dA,qh (fun e=>rfl),pE _⟩
 case round =>
  clear dA dq ev;obtain⟨k,rfl,hk,a6⟩:=hrel;by_cases av:k<n
  · obtain⟨l0,bp,cA,bd,bL⟩:=a6;obtain⟨b1,o1,rfl,ed⟩:=(hS.ext bp).rd (by omega);obtain⟨a2,n2,c2,e2,dt⟩:=HQ.out k av;have g1:=ed k av;rw[e2]at g1;have d3:=qh (P7 (ls:=ls) (k:=k) (by rw[HL.out];exact av));have de:=qh (St (ls:=ls) (k:=k) (by rw[HL.out];exact av));have f0:=qh e2;clear ed e2;obtain⟨L,bj⟩:∃ L,Hid (ls.getD k []=L):=⟨_,qh rfl⟩;obtain⟨pre,bm⟩:∃ p,Hid ((ls.take k).flatten=p):=⟨_,qh rfl⟩;rw[bm.out]at bd bL;have d2:Hid (pre ++ (L ++ (ls.drop (k+1)).flatten)=ls.flatten):=qh (by rw[<-bm.out,<-bj.out];exact d3.out)
    have f7:Hid ((ls.take (k+1)).flatten=pre ++ L):=qh (by rw[<-bm.out,<-bj.out];exact de.out);rw[bj.out]at dt;obtain⟨O,hR,e5,e6⟩:=dt;have f5:=qh e6;have bn:=qh e5;have gf:=hR.le;clear e6 e5 d3 de f0;obtain⟨wo,rfl⟩:∃ x:World,x=wr:=⟨_,rfl⟩;go_wp2
    go_loopw[20] (fun iv wr=>∃ j:Nat,iv = .int .i64 j/\j<=n2/\Xc w w.heap.size (pre ++ L.take j) wr) (fun iv _=>n2-(intOf iv).toNat)
    case atStart=>exact⟨0,rfl,pE _,l0,bp,cA,by simpa using bd,by simpa using bL⟩
    case round =>
     clear cA bd bL bp g1;obtain⟨j,rfl,hj,a6⟩:=hrel;by_cases ar:j<n2
     · obtain⟨l,hE,a0,HC,el⟩:=a6;have bG:=hR.ext hE;obtain⟨b,gi,rfl,_⟩:=bG.rd (by omega);obtain⟨sx,S,Z,U,T,W,V,b9,h6,ca⟩:=f5.out j ar
       have d8:Hid (L.take (j+1)=L.take j ++ [L.getD j ([],0)]):=qh (by
        rw[oH,gqq,oO (by rw[bn.out];exact ar)];rfl)
       have fb:Hid (L.getD j ([],0)∈ls.flatten):=qh (by
        rw[<-d2.out];refine List.mem_append_right _ (List.mem_append_left _ ?_);rw[gqq,oO (by rw[bn.out];exact ar)]
        exact qG _)
       have dc:Hid (∀ e,Pl.RB 2400 (Pl.coef (pre ++ L.take j) e)):=qh (HB.out _ (L.drop j ++ (ls.drop (k+1)).flatten) (by rw[<-d2.out,qi,<-qi (L.take j),rB]));generalize L.getD j ([],0)=t at *
       obtain⟨te,tq⟩:=t;obtain⟨D,E,F,G,H,I,ao⟩:=Bt h6;simp only at ao b9 ca;subst ao;have hY:=Arr.new wr 92 (As [0,0,0,0,0,0] false none 0 0 none 0 0)
       go_upto_region 8 with(first
        | (refine Bg rfl rfl At rfl bG ar ?_;rw[b9])
        | (refine Aa (vs:=As [D,E,F,G,H,I] sx S Z U T W V) rfl rfl rfl rfl rfl At hY rfl AI ?_;intro w3 Q ef))
       have a4:Ext wr w3:=((Ext.refl wr).alloc _).grownR ef (lrf _);have aj:=a0.ext a4;have a5:=hE.trans a4;have cT:=ca.ext a5;have g9:w.heap.size≠wr.heap.size:=by have:=a0.lt;omega
       clear hY ef a0 hE a4 b9 h6 bG ca;generalize wr.heap.size=X at *
       have c0:=Q.c 0 rfl;have c1:=Q.c 1 rfl;have c2:=Q.c 2 rfl;have c3:=Q.c 3 rfl;have c4:=Q.c 4 rfl;have c5:=Q.c 5 rfl;have c6:=Q.c 6 rfl;have c7:=Q.c 7 rfl;have c8:=Q.c 8 rfl;have c9:=Q.c 9 rfl;obtain⟨m,a1,C⟩:=aj;have ag:=a1.nodup;have ah:=qh C;obtain⟨LV,da⟩:∃ v,Hid (Fu Q2 m [D,E,F,G,H,I]=v):=⟨_,qh rfl⟩;have d9:Hid ((l.map (·.1)).Nodup):=qh (by rw[<-C.keys];exact ag);have f1:Hid (BU w3 LV (Pl.getK 0 l [D,E,F,G,H,I])):=qh (by rw[<-da.out,Ig];exact C.get (Oe w3) _)
       have bg:Hid (Pl.RB 2400 (Pl.getK 0 l [D,E,F,G,H,I])):=qh (by rw[Pl.getK_coef l _ d9.out,HC.out];exact dc.out _);have bo:Hid (Pl.RB 2400 tq):=qh (eC.out _ fb.out);have eu:=fun(wx:World) (hq:Ext w3 wx)=>qh (QS ((hT.ext a5).ext hq) (f1.out.ext hq) (v' := .agg #[.bool sx,.slice S Z U,.bool false,.slice T W V]) (q:=tq) ⟨Al sx S Z U false T W V,rfl,cT.ext hq⟩ bg.out.1 bg.out.2 bo.out.1 bo.out.2)
       have f6:Hid (∀ e,Pl.coef (Pl.putK l [D,E,F,G,H,I] (Pl.getK 0 l [D,E,F,G,H,I]+tq)) e=Pl.coef (pre ++ L.take (j+1)) e):=qh (fun e=>by
        rw[Pl.coef_step d9.out,HC.out,d8.out,<-qi,Pl.coef_app _ [_]])
       have f3:=qh (Pl.putK_length [D,E,F,G,H,I] (Pl.getK 0 l [D,E,F,G,H,I]+tq) l);have eX:Hid ((pre ++ L.take (j+1)).length=(pre ++ L.take j).length+1):=qh (by rw[d8.out];simp;omega);clear C ag dc bg bo cT;generalize Pl.getK 0 l [D,E,F,G,H,I]=gq at *
       have ak:=fun(wx:World) (J:Ext w3 wx)=>qh (And.intro (J.cell c0) (And.intro (J.cell c1) (And.intro (J.cell c2) (And.intro (J.cell c3) (And.intro (J.cell c4) (And.intro (J.cell c5) (And.intro (J.cell c6) (And.intro (J.cell c7) (And.intro (J.cell c8) (J.cell c9))))))))))
       refine B0
        [he (.map (some w.heap.size)),hdP X 0,he (.agg #[.int .i64 D,.int .i64 E,.int .i64 F,.int .i64 G,.int .i64 H,.int .i64 I]),he (.map (some w.heap.size)),hdP X 0,he (.agg #[.int .i64 D,.int .i64 E,.int .i64 F,.int .i64 G,.int .i64 H,.int .i64 I]),he LV,hdP X 6,he (.agg #[.bool sx,.slice S Z U,.bool false,.slice T W V]),hp (fun v wx=>NR (gq+tq) v wx)]
        ⟨NR.x _,trivial⟩ ⟨?o0,?o1,?o2,?o3,?o4,?o5,?o6,?o7,?o8,?o9,trivial⟩ ?fin
       case o0 | o3=>exact omv
       case o1 | o4=>exact ofa (d:=0)
       case o7=>exact ofa (d:=6)
       case o8=>exact ol4
       case o2 =>
        refine Aj rfl fun ρ wx J b8 h => ?_;have e0:_=_:=h.1;obtain⟨cb,cc,cd,ce,cg,ch,ck,cl,cn,co⟩:=(ak wx J).out;go_simp
       case o5 =>
        refine Aj rfl fun ρ wx J b8 h => ?_;have e0:_=_:=h.1;obtain⟨cb,cc,cd,ce,cg,ch,ck,cl,cn,co⟩:=(ak wx J).out;go_simp
       case o6 =>
        refine Aj rfl fun ρ wx J b8 h => ?_;have e0:_=_:=h.1;have e1:_=_:=h.2.1;obtain⟨cb,cc,cd,ce,cg,ch,ck,cl,cn,co⟩:=(ak wx J).out;rw[<-da.out];exact LX rfl Du A1 J3 e0 e1 (a1.ext J) rfl
       case o9 =>
        refine Ag rfl fun ρ wx J b8 ga h => ?_;have e1:_=_:=h.2.1;have e2:_=_:=h.2.2.1;obtain⟨cb,cc,cd,ce,cg,ch,ck,cl,cn,co⟩:=(ak wx J).out;refine⟨146,#[LV,.agg #[.bool sx,.slice S Z U,.bool false,.slice T W V]],by go_simp,((eu wx J).out).mono ?_⟩;rintro e w' ⟨cs,rfl,fe,fN⟩;exact⟨_,rfl,fe,cs,rfl,fN⟩
       case fin =>
        intro wx J;rintro _ ⟨dj,rfl,fO⟩;change wpList _ _ _ _ _ _;simp only[Ci];have dJ:=a1.ext J;have g8:=a5.size
        go_wp2_with(refine PG rfl (Or.inl rfl) Du A1 (k:=[D,E,F,G,H,I]) (v := .agg dj.toArray) rfl rfl rfl dJ rfl ?_;intro w5 dB a8)
        go_roundw
        case rel =>
         refine⟨j+1,by go_num,by omega,_,(a5.trans J).grownR a8 (lrf _),⟨_,by rw[Od]at dB;exact dB,?_⟩,f6,by have h1:=f3.out;have h2:=eX.out;omega⟩;have hU:=dJ.noU;exact((ah.out.mono fun _ _ h=>h.ext J).put _ ⟨dj,rfl,fO⟩).mono fun _ _ h=>h.keptU hU a8
        case measure=>simp[intOf];omega
     · have fs:j=n2:=by omega
       subst fs;rw[pu (by rw[bn.out];exact lrf _),<-f7.out]at a6;go_wp2;go_roundw
       case rel=>exact⟨k+1,by go_num,by omega,a6⟩
       case measure=>simp[intOf];omega
  · have fu:k=n:=by omega
    subst fu;rw[pu (by rw[HL.out];exact lrf _)]at a6;obtain⟨l,hE,a0,HC,el⟩:=a6;have h6:=a0.six;have ag:=a0.nodup;have HP:=qh (And.intro h6 ag);clear h6 ag;obtain⟨m,a1,C⟩:=a0;have en:=C.len;have bN:m.length<=1000000:=by have:=HN.out;omega
    have bk:=qh en;have fw:=Ih (P:=prog) (ty:=3) Du a1;have ah:=qh C;clear en C el
    go_upto_region 12 with(refine Jk rfl rfl (by kernel_rfl) Bs AV rfl rfl (by omega) (by unfold maxLen;omega) ?_;intro w2 bv bq)
    have z:=a1.ext bq
    go_upto_region 13 with(refine JL rfl rfl Du rfl z ?_;intro w3 dw a4 ex)
    have ai:=bq.trans a4;have a5:=hE.trans ai;have aj:Dz w3 w.heap.size l:=⟨m,a1.ext ai,ah.out.mono fun _ _ h=>h.ext ai⟩;have cz:AN w3 w2.heap.size w.heap.size l.length []:=by rw[<-bk.out];exact dw
    have gb:w.heap.size<wr.heap.size:=a1.lt;have bz:=bv.ext a4;have gc:wr.heap.size<w2.heap.size:=bv.lt.2;have b6:Er w3 w.heap.size 92 10 wr.heap.size 0 m.length []:=⟨bz.1.mono (by omega),bz.2⟩;clear dw z bq a4 bv ai fw hE ex a1 bz;generalize wr.heap.size=g at *
    generalize w2.heap.size=it at *
    obtain⟨M,hM⟩:∃ M,m.length=M:=⟨_,rfl⟩;have dI:l.length=M:=by rw[<-hM];exact bk.out.symm
    have f2:=qh dI;rw[hM]at b6 bN |-;have ff:=bN;clear bN;clear hM dI ah bk
    go_frame
    go_loopw[8] (fun v wr=>X7 w w.heap.size it g M l v wr) (fun _ wr=>l.length-IH wr it)
    case atStart=>exact⟨[],0,[],rfl,a5,aj,cz,by simp,by simp,b6,rfl,qh (fun i hi=>absurd hi (by omega))⟩
    case round =>
     clear a5 aj cz b6;obtain⟨f,N,O,rfl,hE,a0,hI,aA,ay,hO,eo,bf⟩:=hrel;have g5:N<=f.length/\f.length<=l.length:=by
      have h1:=Pl.picked_len l f;have h2:=Pl.seen_len aA ay;omega
     have R:=qh eo;clear eo;obtain⟨m2,z,b2⟩:=a0;have aa:=b2.len;rw[<-aa]at hI;have bW:=LY z hI;by_cases b7:∀ i,i<m2.length->i∈f
     · have cq:=Pl.picked_perm aA ay (fun i hi=>b7 i (by rw[aa];exact hi));have db:=qh cq;clear cq aa
       go_wp2_with(refine FY rfl rfl rfl z hI (fun _ => ?_) (fun i _ _ _ h1 h2 _ _ _=>absurd (b7 i h1) h2))
       go_ret;refine⟨Pl.picked l f,⟨_,N,M,rfl,hE,O,hO.1,fun g' fk => ?_,R.out,bf.out⟩,(Pl.Nrm.filter HP.out.1 HP.out.2).perm db.out.symm,fun e => ?_⟩
       · have:g=g':=by simpa[blk]using fk
         subst this;exact hO.2
       · rw[Pl.coef_perm db.out,Pl.coef_nz,HC.out]
     · have e8:IH wr it=f.length:=C2 hI;have g2:=hE.size;have e4:=Da hO.1 hI;have g7:=Ej hO.1 z;have b0:=qh b2;have cv:=qh aa;have g3:=hI.lt;have ap:=hI.noU;clear b2 aa
       go_upto_region 14 with(refine FY rfl rfl rfl z hI (fun h=>absurd h b7) ?_;intro i k v w4 fn ei bR bt a7)
       obtain⟨q,em,e7⟩:=b0.out.nth bR;have bi:Hid (l.getD i ([],0)=(k,q)):=qh (by rw[gqq,em];rfl);have ek:k.length=6:=z.six _ (ql bR);have cP:Dz w4 w.heap.size l:=Dz.keptU ⟨m2,z,b0.out⟩ ap a7 bW;have cR:=z.kept a7 (by simpa using bW);have dT:=hO.kept a7 (by simpa using e4);have cr:Hid (∀ i,i<N->BB w4 (O.getD i []) ((Pl.picked l f).getD i ([],0))):=qh (fun i hi=>(bf.out i hi).keptU ap a7);have et:=e7.keptU ap a7;have bs:Ext w w4:=hE.grownR a7 (by omega)
       have A:Hid ((f ++ [i]).Nodup/\(∀ j∈f ++ [i],j<l.length)/\f.length<l.length):=qh (by
        have eg:i<l.length:=by rw[<-cv.out];exact fn
        refine⟨th.2 ⟨aA,by simp,fun x hx y hy=>by simp only[pF]at hy;subst hy;rintro rfl;exact ei hx⟩,fun j hj => ?_,?_⟩
        · rcases qd.1 hj with hj|hj
          · exact ay j hj
          · simp only[pF]at hj;subst hj;exact eg
        · have:=Pl.seen_len (n:=l.length) (qL.2 ⟨ei,aA⟩) (fun x hx=>by
           rcases qj.1 hx with rfl|hx
           · exact eg
           · exact ay x hx)
          simp at this
          omega)
       obtain⟨D,E,F,G,H,I,ao⟩:=Bt ek;subst ao;obtain⟨_,rfl,sx,S,Z,U,T,W,V,rfl,dd,ep,eq⟩:=et;have d4:Hid (AN w4 it w.heap.size l.length (f ++ [i])):=qh (by rw[<-cv.out];exact bt);have gg:=bs.size;clear e7 bf hE z hO hI a7 ap ek em g2 e4 bW b0;have e9:=ER w4 (ze.map (Value.int .i64)) (Al false none 0 0 false none 0 0) 90 85;have ea:=ES w4 (ze.map (Value.int .i64)) (Al false none 0 0 false none 0 0) 90 85;have dv:=UD w4 (.cells (ze.map (Value.int .i64)).toArray 90) (.cells (Al false none 0 0 false none 0 0).toArray 85)
       go_upto_region 15 with(first
        | (refine JM rfl rfl rfl cR bt bR ?_)
        | (refine Aa (vs:=[D,E,F,G,H,I].map (Value.int .i64)) rfl rfl rfl rfl rfl D4 e9 rfl (Cc _) ?_;intro w5 dn a8;have eb:=ea.kept a8 (by simp);clear e9)
        | (refine Aa (vs:=Al sx S Z U false T W V) rfl rfl rfl rfl rfl Ak eb rfl (Aq _ _ _ _ _ _ _ _) ?_;intro w6 ac bK))
       have B:Ext w4 w6:=(dv.grownR a8 (lrf _)).grownR bK (by omega);have K:=dn.kept bK (by simp);have ds:=bs.trans B;have cQ:=cP.ext B;have d5:Hid (AN w6 it w.heap.size l.length (f ++ [i])):=qh (d4.out.ext B);have e3:=dT.ext B;have ct:Hid (∀ i,i<N->BB w6 (O.getD i []) ((Pl.picked l f).getD i ([],0))):=qh (fun i hi=>(cr.out i hi).ext B);have ba:=ep.ext B;have bb:=eq.ext B;clear dn a8 bK dv ea eb B cP d4 dT cr ep eq bs cR bt;generalize w4.heap.size=Y at *
       have y0:w6.cell? ⟨Y,0,none⟩=some (.int .i64 D):=K.cell (i:=0) (by simp);have y1:w6.cell? ⟨Y,1,none⟩=some (.int .i64 E):=K.cell (i:=1) (by simp);have y2:w6.cell? ⟨Y,2,none⟩=some (.int .i64 F):=K.cell (i:=2) (by simp);have y3:w6.cell? ⟨Y,3,none⟩=some (.int .i64 G):=K.cell (i:=3) (by simp);have y4:w6.cell? ⟨Y,4,none⟩=some (.int .i64 H):=K.cell (i:=4) (by simp);have y5:w6.cell? ⟨Y,5,none⟩=some (.int .i64 I):=K.cell (i:=5) (by simp);have z0:=ac.c 0 rfl;have z1:=ac.c 1 rfl;have z2:=ac.c 2 rfl;have z3:=ac.c 3 rfl
       have ej:=qh (DU (w:=w6) (v := .agg #[.bool sx,.slice S Z U,.bool false,.slice T W V]) (q:=q) ⟨Al sx S Z U false T W V,rfl,sx,S,Z,U,T,W,V,rfl,dd,ba,bb⟩ rfl);clear K ac
       go_wp2_with fail
       refine ej.out.mono ?_;rintro e w7 ⟨rfl,o⟩;have b4:=ds.trans o;have b5:=cQ.ext o;have al:Hid (AN w7 it w.heap.size l.length (f ++ [i])):=qh (d5.out.ext o);have aq:=e3.ext o;have b3:Hid (∀ i,i<N->BB w7 (O.getD i []) ((Pl.picked l f).getD i ([],0))):=qh (fun i hi=>(ct.out i hi).ext o);have d0:=ba.ext o;have d1:=bb.ext o;have y0:=o.cell y0;have y1:=o.cell y1;have y2:=o.cell y2;have y3:=o.cell y3;have y4:=o.cell y4;have y5:=o.cell y5;have z0:=o.cell z0;have z1:=o.cell z1;have z2:=o.cell z2;have z3:=o.cell z3
       clear ej ds cQ d5 e3 ct ba bb o;by_cases a9:q=0
       · rw[qC a9];have ab:Hid (Pl.picked l (f ++ [i])=Pl.picked l f):=qh (by rw[Pl.picked_snoc,pP (by rw[bi.out];exact a9)]);clear a9;go_wp2;go_roundw
         case rel=>exact⟨f ++ [i],N,O,rfl,b4,b5,al.out,A.out.1,A.out.2.1,aq,by rw[ab.out];exact R.out,by rw[ab.out];exact b3⟩
         case measure =>
          have e1:=C2 al.out;have e2:=A.out.2.2;rw[e8,e1];simp;omega
       · rw[pN a9];have ab:Hid (Pl.picked l (f ++ [i])=Pl.picked l f ++ [([D,E,F,G,H,I],q)]):=qh (by rw[Pl.picked_snoc,pC (by rw[bi.out];exact a9),bi.out]);have g6:N<M:=by have h1:=A.out.2.2;have h2:=f2.out;omega
         have g4:M<=1000000:=ff;clear a9;have a3:Ext w7 (w7.alloc (.cells (As [D,E,F,G,H,I] sx S Z U T W V).toArray 92)):=(Ext.refl w7).alloc _;have hA8:=aq.ext a3;have dy:=BT (k:=10) (Arr.new w7 92 (As [D,E,F,G,H,I] sx S Z U T W V)) rfl;have fv:(As [D,E,F,G,H,I] sx S Z U T W V).toArray=#[.int .i64 D,.int .i64 E,.int .i64 F,.int .i64 G,.int .i64 H,.int .i64 I,.bool sx,.slice S Z U,.bool false,.slice T W V]:=rfl
         have ec:w.heap.size<=(w7.alloc (.cells (As [D,E,F,G,H,I] sx S Z U T W V).toArray 92)).heap.size:=(b4.trans a3).size;have eD:=qh (b4.trans a3);have es:Hid (∀ i,i<N->BB (w7.alloc (.cells (As [D,E,F,G,H,I] sx S Z U T W V).toArray 92)) (O.getD i []) ((Pl.picked l f).getD i ([],0))):=qh fun i hi=>(b3.out i hi).ext a3
         have er:Hid (BB (w7.alloc (.cells (As [D,E,F,G,H,I] sx S Z U T W V).toArray 92)) (As [D,E,F,G,H,I] sx S Z U T W V) ([D,E,F,G,H,I],q)):=qh ⟨sx,S,Z,U,T,W,V,rfl,rfl,sx,S,Z,U,T,W,V,rfl,dd,d0.ext a3,d1.ext a3⟩;have cy:=qh (b5.ext a3);have d6:=qh (al.out.ext a3);have bl:=qh hA8;rw[fv]at hA8 dy ec;have g0:=aq.1.len (by omega);clear b5 aq b3 al d0 d1
         go_wp2_with(refine GT rfl rfl (by kernel_rfl) Bs rfl hA8 rfl dy (by intro r hr u hu;rw[pF.1 hr]at hu;exact AI u hu) (by intro r hr u hu;rw[pF.1 hr]at hu;exact AV u hu) (by omega) (by omega) ec ?_;intro w9 fg ad)
         have d7:Hid (AN w9 it w.heap.size l.length (f ++ [i])):=qh (d6.out.kept ad (by have:=Da bl.out.1 d6.out;simpa using fun h=>this h.symm));go_roundw
         case rel =>
          have hU:=bl.out.2;have fA:w.heap.size≠g:=by
           obtain⟨m8,h8,_⟩:=cy.out;exact fun h=>Ej bl.out.1 h8 h.symm
          refine⟨f ++ [i],N+1,_,rfl,eD.out.grownR ad (by omega),cy.out.keptU hU ad fA,d7.out,A.out.1,A.out.2.1,fg,by rw[ab.out,pZ,R.out];rfl,qh fun j hj => ?_⟩;rw[ab.out];by_cases fr:j=N
          · subst fr;rw[gqq,pW (by omega),g0,ro,gqq,pW (by rw[R.out];exact lrf _),R.out,ro];exact er.out.keptU hU ad
          · rw[gqq,pO (by omega),<-gqq,gqq (l:=Pl.picked l f ++ _),pO (by rw[R.out];omega),<-gqq];exact(es.out j (by omega)).keptU hU ad
         case measure =>
          have e1:=C2 d7.out;have e2:=A.out.2.2;rw[e8,e1];simp;omega
theorem FK{k:Nat}:∀ (a:List (List Value)),(∀ r∈a,r.length=k)->∀ i o (vs:List Value),o+vs.length<=k->i<a.length ->
 a.flatten.take (i*k+o) ++ vs ++ a.flatten.drop (i*k+o+vs.length)=(a.set i ((a.getD i []).take o ++ vs ++ (a.getD i []).drop (o+vs.length))).flatten
 | [],_,i,o,vs,_,hi=>by simp at hi
 | r :: rest,h,0,o,vs,hv,_=>by
  have hr:r.length=k:=h r (by simp);simp only[r7,qA,vh,vX,vN];rw[List.take_append_of_le_length (by omega),List.drop_append_of_le_length (by omega),<-qi]
 | r :: rest,h,i+1,o,vs,hv,hi=>by
  have hr:r.length=k:=h r (by simp);have d:=FK rest (fun x c=>h x (by simp[c])) i o vs hv (by simpa using hi);have e:(i+1)*k+o=k+(i*k+o):=by rw[qJ];omega
  have b:k+(i*k+o)+vs.length=k+(i*k+o+vs.length):=by omega
  simp only[vh,vD,vO,e,b];rw[<-d,<-hr,List.take_length_add_append,List.drop_length_add_append];simp
section
variable {w:World} {base:Nat} {e:TypeId} {k g n:Nat} {rows:List (List Value)}
theorem AR.arrK(h:AR w base e k (some ⟨g,0,none⟩) n n rows):Arr w g e rows.flatten:=by
 rcases h.2.2 with⟨a,_⟩|⟨l,d,b,a,m,f,i,o,j,c⟩
 · simp at a
 simp only[pI,pz,qq,qO,tP]at a;obtain⟨rfl,rfl⟩:=a;have h2:b.toList=rows.flatten:=by rw[<-c,pu (by simp[j])]
 unfold Arr;rw[f,<-h2]
theorem Arr.ownK(h:Arr w g e rows.flatten)(b:∀ r∈rows,r.length=k)(f:rows.length=n)(c:base<=g)(d:n<=maxLen):AR w base e k (some ⟨g,0,none⟩) n n rows:=by
 have a:=BM rows b;rw[f]at a;refine⟨b,by rw[a],Or.inr ⟨g,n,rows.flatten.toArray,rfl,c,h,lrf _,d,by simpa using a,?_⟩⟩;simpa using pu (by rw[a];exact lrf _)
end
def G9(vars:Int)(t:Tx):Prop:=(AD t.1).isSome=true/\(t.2.length:Int)=vars/\A3 t.2=true
def Es(t:Tx):Pl.Tm:=(AY t.2,(AD t.1).getD 0)
def Xd:List Value:=As ze false none 0 0 none 0 0
def Rc(w:World)(vars:Int)(ts:List Tx)(e:Ending)(w':World):Prop :=
 (¬ (0<=vars/\vars<=6)/\Cl w 0 [] 3 e w')\/(0<=vars/\vars<=6/\¬ (∀ t∈ts,G9 vars t)/\Cl w 0 [] 1 e w')\/(0<=vars/\vars<=6/\(∀ t∈ts,G9 vars t)/\Cd w (resQ vars (ts.map Es)) e w')
structure EH(p:List Pl.Tm):Prop where
 pre:∀ a s,a ++ s=p->∀ e,Pl.RB 2400 (Pl.coef a e)
 each:∀ t∈p,Pl.RB 2400 t.2
 fits:Cj p
theorem Su{ts:List Tx}(hT:AM w)(h:AH w A n c ts)(hs:∀ t∈ts,t.1.length<=570)(hn:n<=1000000)(b5:0<=vars->vars<=6->(∀ t∈ts,G9 vars t)->EH (ts.map Es)) :
 Calls prog 12 #[.int .i64 vars,.slice A n c] w (Rc w vars ts):=by
 have bi:=h.len;obtain⟨cp,hS,_,hq⟩:=h;have HQ:=qh hq;have HL:=qh bi;have HS:=qh hs;clear hq bi hs
 go_enter func12,ntmps12
 go_upto_region 1 with(fail)
 refine AP ?_;intro w0 M bv d8;have hR:Arr w0 w.heap.size 28 (Ah 0 none 0 0):=bv;have dl:(Ah 0 none 0 0).toArray=#[.int .i64 0,.slice none 0 0]:=rfl;clear bv d8;by_cases hv:0<=vars/\vars<=6
 · obtain⟨a5,a6⟩:=hv;have cy:=qh (b5 a5 a6);clear b5;obtain⟨E,rfl⟩:∃ k:Nat,vars=(k:Int):=⟨vars.toNat,by omega⟩;have c1:¬ ((E:Int)<0):=by omega
   have c2:¬ ((6:Int)<(E:Int)):=by omega
   have bj:nuR (List.replicate n Xd):=fun r hr u hu=>by rw[(qS.1 hr).2]at hu;exact AV u hu
   go_upto_region 4 with(refine E0 rfl rfl (by kernel_rfl) Bs rfl rfl (by omega) (by unfold maxLen;omega) ?_;intro w1 ar bx)
   obtain⟨G,hG⟩:∃ G,w0.heap.size=G:=⟨_,rfl⟩;rw[hG]at ar |-;go_wp2
   go_loopw[23] (fun iv wr=>∃ (k:Nat) (a:List (List Value)),iv = .int .i64 k/\k<=n/\Ext w0 wr/\AR wr w0.heap.size 92 10 (some ⟨G,0,none⟩) n n a/\nuR a/\Hid (∀ i,i<k->G9 E (ts.getD i tm0)/\BB wr (a.getD i []) (Es (ts.getD i tm0)))/\Hid (∀ i,k<=i->i<n->a.getD i []=Xd)) (fun iv _=>n-(intOf iv).toNat)
   case atStart=>exact⟨0,_,rfl,pE _,bx,by rw[hG];exact ar,bj,qh (fun i d=>absurd d (by omega)),qh (fun i _ d=>by simp[d,Xd,ze])⟩
   case round =>
    clear ar bx bj;obtain⟨k,a,rfl,hk,hE,hO,b4,HC,HZ⟩:=hrel;have bK:=M.trans hE;by_cases ad:k<n
    · have av:=hS.ext bK;obtain⟨b,dn,rfl,cQ⟩:=av.rd (by omega);obtain⟨s,ax,nx,cx,bk,a4,ah⟩:=HQ.out k ad;have hY:=Arr.new wr 26 (tmL ⟨#[]⟩ none 0 0);have b9:cp.getD k []=tmL s ax nx cx:=bk
      go_upto_region 7 with(first
       | (refine Bg rfl rfl A4 rfl av ad ?_;rw[b9])
       | (refine Aa (vs:=tmL s ax nx cx) rfl rfl rfl rfl rfl A4 hY rfl (CI _ _ _ _) ?_;intro w2 a8 c6))
      have a9:Ext wr w2:=((Ext.refl wr).alloc _).grownR c6 (lrf _);have bN:=hO.ext a9;have ak:Hid (∀ i,i<k->G9 E (ts.getD i tm0)/\BB w2 (a.getD i []) (Es (ts.getD i tm0))):=qh fun i d=>⟨(HC.out i d).1,(HC.out i d).2.ext a9⟩;have ai:=hE.trans a9;have bd:=M.trans ai;have S:=ah.ext bd;have F:Hid (ts.getD k tm0∈ts):=qh (by simp[HL.out,ad]);have cb:s.size<=570:=by rw[<-Ay,a4];exact HS.out _ F.out
      have a2:=qh (GQ (w:=w2) (hT.ext bd) cb);rw[a4]at a2;obtain⟨t,bs⟩:∃ t,Hid (ts.getD k tm0=t):=⟨_,qh rfl⟩;rw[bs.out]at a2 S ah a4 F;obtain⟨t1,P⟩:=t;simp only at a2 S ah a4;obtain⟨X,hX⟩:∃ x,wr.heap.size=x:=⟨_,rfl⟩;rw[hX]at a8 |-;have db:G<X:=by have:=(hO.lt (g:=G) rfl).2;omega
      have y0:=a8.c 0 rfl;have y1:=a8.c 1 rfl;clear hY c6 hO hE a9 bk b9 cQ av HC a4 cb
      go_wp2_with fail
      refine a2.out.mono ?_;rintro e w3 ⟨_,rfl,aa,B,f,m,j,o,z,y,rfl,bq,cd,cg⟩;have c5:=Arr.new w3 85 (Al false none 0 0 false none 0 0);have d0:(Al B f m j false o z y).toArray=#[.bool B,.slice f m j,.bool false,.slice o z y]:=rfl
      go_upto_region 8 with(refine Aa (vs:=Al B f m j false o z y) rfl rfl rfl rfl rfl Ak c5 rfl (Aq _ _ _ _ _ _ _ _) ?_;intro w4 U c8)
      have R:Ext w3 w4:=((Ext.refl w3).alloc _).grownR c8 (lrf _);have H:=aa.trans R;have Q:=ai.trans H;have I:=M.trans Q;have ab:=hR.ext Q;have C:=bN.ext H;have al:Hid (∀ i,i<k->G9 E (ts.getD i tm0)/\BB w4 (a.getD i []) (Es (ts.getD i tm0))):=qh fun i d=>⟨(ak.out i d).1,(ak.out i d).2.ext H⟩;have T:=S.ext H;have y1:=H.cell y1;have b7:=cd.ext R;have b8:=cg.ext R;have ag:=T.len;obtain⟨Y,c4⟩:∃ x,w3.heap.size=x:=⟨_,rfl⟩;rw[c4]at U |-;have z0:=U.c 0 rfl;have z1:=U.c 1 rfl;have z2:=U.c 2 rfl
      have z3:=U.c 3 rfl;clear c5 c8 d0 aa R cd cg bN ak S y0 a8 a2 ai U c4;cases K:AD t1 with
      | none =>
       have a0:Hid (¬ ∀ t∈ts,G9 E t):=qh (fun h=>by have:=(h _ F.out).1;rw[K]at this;cases this);simp only[xd];clear K
       go_wp2_with(refine Aa (vs:=Ah 0 none 0 0) rfl rfl rfl rfl rfl Ad ab rfl (Am _ _ _ _) ?_;intro w9 L O)
       refine py (Ao rfl Ad rfl rfl L) rfl ?_;exact Or.inr (Or.inl ⟨a5,a6,a0.out,none,0,0,rfl,I.grownR O (lrf _),TmO.nil _ _⟩)
      | some q =>
       simp only[vC,K,pY]at bq b7 b8 |-;by_cases D:(nx:Int)=E
       · have cn:((nx:Int) != (E:Int))=false:=by simp[D]
         cases Z:A3 P with
         | false =>
          have a0:Hid (¬ ∀ t∈ts,G9 E t):=qh (fun h=>by have:=(h _ F.out).2.2;rw[show((t1,P):Tx).2=P from rfl,Z]at this;cases this);have W:=qh (E6 T);rw[Z]at W;have ct:=qh D;clear K Z D
          go_wp2_with fail
          refine W.out.mono ?_;rintro e w5 ⟨rfl,rfl⟩
          go_wp2_with(refine Aa (vs:=Ah 0 none 0 0) rfl rfl rfl rfl rfl Ad ab rfl (Am _ _ _ _) ?_;intro w9 L O)
          refine py (Ao rfl Ad rfl rfl L) rfl ?_;exact Or.inr (Or.inl ⟨a5,a6,a0.out,none,0,0,rfl,I.grownR O (lrf _),TmO.nil _ _⟩)
         | true =>
          have cr:Hid (G9 E (t1,P)):=qh ⟨by rw[show((t1,P):Tx).1=t1 from rfl,K];rfl,by show(P.length:Int)=E;rw[ag];exact D,Z⟩;have cs:Hid (Es (t1,P)=(AY P,q)):=qh (by show(AY P,(AD t1).getD 0)=_;rw[K];rfl);have W:=qh (E6 T);rw[Z]at W;have d1:nx<=6:=by omega
          have ca:=HZ.out k (lrf _) ad;have b6:=C.len (by omega);have aA:=BM a C.1;rw[b6]at aA
          have bn:Hid (a.flatten.take (k*10+6) ++ Al B f m j false o z y ++ a.flatten.drop (k*10+6+(Al B f m j false o z y).length)=(a.set k (As ze B f m j o z y)).flatten):=qh (by
           rw[FK a C.1 k 6 (Al B f m j false o z y) (by simp[Al,Ac]) (by omega),ca]
           rfl)
          have cc:∀ r∈a.set k (As ze B f m j o z y),r.length=10:=fun r hr=>by
           rcases rE hr with h|h
           · exact C.1 r h
           · rw[h,BC];rfl
          have cq:Hid ((a.set k (As ze B f m j o z y)).flatten.take (k*10) ++ P.map (Value.int .i64) ++ (a.set k (As ze B f m j o z y)).flatten.drop (k*10+nx)=(a.set k (As (AY P) B f m j o z y)).flatten):=qh (by
           have h1:=FK (a.set k (As ze B f m j o z y)) cc k 0 (P.map (Value.int .i64)) (by simp;omega) (by simp;omega);rw[qy,pH,ag]at h1;rw[h1,oK];congr 2;have e1:(a.set k (As ze B f m j o z y)).getD k []=As ze B f m j o z y:=by rw[gqq,tK (by omega)];rfl
           rw[e1,rf,qR,qA];unfold As AY;have hz:ze=List.replicate 6 0:=rfl
           rw[hz,tV,qw,tV,wX,List.drop_replicate,ag,List.length_replicate,show nx-6=0 by omega,qN,qi])
          have hA4:=C.arrK;have ct:=qh D;have cv:=qh C.1;have da:=(C.lt (g:=G) rfl);have ac:=C.noU b4;have c9:(k:Int)<n:=by omega
          have dd:X≠G:=by omega
          clear K Z D ca C
          go_wp2_with fail
          refine W.out.mono ?_;rintro e w5 ⟨rfl,rfl⟩;clear W
          go_upto_region 11 with(refine CD rfl rfl (Al B f m j false o z y) _ (by kernel_rfl) rfl rfl rfl hA4 (by rw[aA];simp[Al,Ac];omega) (Aq _ _ _ _ _ _ _ _) bn.out ?_;intro w5 hA5 N)
          have d9:∀ v∈(a.set k (As ze B f m j o z y)).flatten,∀ i,v ≠ .int .u64 i:=fun v hv=>by
           obtain⟨r,hr,hu⟩:=vu.1 hv;rcases rE hr with h|h
           · exact b4 r h v hu
           · rw[h]at hu;exact AV v hu
          have d5:w.heap.size<=G:=by have:=M.size;omega
          have bf:=I.grownR N d5;have bb:=Q.grownR N (vj hG);have bl:=ah.ext bf;have yy:w5.cell? ⟨X,1,none⟩=some (.slice ax nx cx):=by rw[sc (w:=w4) (N.block X (qV w4 ⟨X,1,none⟩ y1) (by simp;omega)),y1]
          have ao:Hid (∀ i,i<k->G9 E (ts.getD i tm0)/\BB w5 (a.getD i []) (Es (ts.getD i tm0))):=qh fun i d=>⟨(al.out i d).1,(al.out i d).2.keptU ac N⟩;have ce:=b7.keptU ac N;have ch:=b8.keptU ac N;have bg:=BM _ cc;rw[ve,b6]at bg;clear y1 z0 z1 z2 z3 hA4 ac N al b7 b8 T ab Q I bn aA
          go_still_tail 7,(by kernel_rfl)
          change wpList _ _ _ _ _ w5.drew;have hA6:Arr w5.drew G 92 (a.set k (As ze B f m j o z y)).flatten:=hA5;have V:=(Ext.refl w5).drew;have co:=bl.ext V;have cl:=bb.trans V;have bm:Hid (∀ i,i<k->G9 E (ts.getD i tm0)/\BB w5.drew (a.getD i []) (Es (ts.getD i tm0))):=qh fun i d=>⟨(ao.out i d).1,(ao.out i d).2.ext V⟩;have d6:=ce.ext V;have d7:=ch.ext V;clear hA5 bl bb bf ao ce ch V yy;generalize w5.drew=w6 at *
          have c0:=hA6.noU d9
          go_wp2_with(refine LF (sT:=24) rfl rfl underlying24 Dt rfl rfl hA6 co d1 (by rw[bg];omega) (Cc _) ?_;intro w7 hA7 b1;rw[cq.out]at hA7)
          go_roundw
          case rel =>
           have d4:∀ r∈a.set k (As (AY P) B f m j o z y),r.length=10:=fun r hr=>by
            rcases rE hr with h|h
            · exact cv.out r h
            · rw[h,BC,D0 (by omega)]
           refine⟨k+1,a.set k (As (AY P) B f m j o z y),by go_num,by omega,cl.grownR b1 (vj hG),hA7.ownK d4 (by rw[ve];exact b6) (vj hG) (by unfold maxLen;omega),?_,qh fun i d => ?_,qh fun i h1 h2 => ?_⟩
           · intro r hr u hu;rcases rE hr with h|h
             · exact b4 r h u hu
             · rw[h]at hu;exact AV u hu
           · by_cases cT:i=k
             · subst cT;rw[bs.out];refine⟨cr.out,?_⟩;rw[cs.out,gqq,tK (by omega)];exact BB.keptU ⟨B,f,m,j,o,z,y,rfl,D0 (by show P.length<=6;omega),B,f,m,j,o,z,y,rfl,bq,d6,d7⟩ c0 b1
             · rw[gqq (l:=a.set _ _),List.getElem?_set_ne (by omega),<-gqq];exact⟨(bm.out i (by omega)).1,(bm.out i (by omega)).2.keptU c0 b1⟩
           · rw[gqq (l:=a.set _ _),List.getElem?_set_ne (by omega),<-gqq];exact HZ.out i (by omega) h2
          case measure=>simp[intOf];omega
       · have a0:Hid (¬ ∀ t∈ts,G9 E t):=qh (fun h=>D (by have:=(h _ F.out).2.1;rw[<-ag];exact this));have cn:((nx:Int) != (E:Int))=true:=by simpa using D
         clear K D
         go_wp2_with(refine Aa (vs:=Ah 0 none 0 0) rfl rfl rfl rfl rfl Ad ab rfl (Am _ _ _ _) ?_;intro w9 L O)
         refine py (Ao rfl Ad rfl rfl L) rfl ?_;exact Or.inr (Or.inl ⟨a5,a6,a0.out,none,0,0,rfl,I.grownR O (lrf _),TmO.nil _ _⟩)
    · have c9:k=n:=by omega
      subst c9
      have ba:Hid (∀ t∈ts,G9 E t):=qh (fun t ht=>by
       obtain⟨i,d,rfl⟩:=r9.1 ht;have:=(HC.out i (by rw[<-HL.out];exact d)).1;rw[gqq,oO d]at this
       exact this)
      have a1:=cy.out ba.out;have cz:=qh a1
      have bG:Bn wr (some ⟨G,0,none⟩) k k (ts.map Es):=⟨a,hO.slk (by omega),by simp[HL.out],fun i d=>by
       have h1:=(HC.out i d).2;have h2:(ts.map Es).getD i ([],0)=Es (ts.getD i tm0):=by simp[HL.out,d]
       rw[h2];exact h1⟩
      have aq:=(Ext.refl wr).alloc (.cells #[.slice (some ⟨G,0,none⟩) k k] 80);have bL:GU (wr.alloc (.cells #[.slice (some ⟨G,0,none⟩) k k] 80)) (some ⟨wr.heap.size,0,none⟩) 1 1 [ts.map Es]:=by
       refine⟨[.slice (some ⟨G,0,none⟩) k k],(AB wr wr.heap.size 80 #[.slice (some ⟨G,0,none⟩) k k] 1 rfl (lrf _) (by omega)).sl,rfl,fun i d => ?_⟩;have:i=0:=by omega
       subst this;exact⟨_,k,k,rfl,bG.ext aq⟩
      have J:[ts.map Es].flatten=ts.map Es:=by simp
      have ap:=qh (Ff ((hT.ext bK).ext aq) bL (by omega) (by rw[J];exact a1.fits.len) (by rw[J];exact a1.pre) (by rw[J];exact a1.each));rw[J]at ap;have aj:=hE.trans aq;have dc:=hR.ext aj;clear a1 bG bL hO HC HZ J
      go_wp2_with fail
      refine ap.out.mono ?_;rintro e w3 ⟨dq,⟨f,m,j,rfl,aa,bR⟩,b2,ay⟩;have b0:=cz.out.fits.out b2 ay;have de:=bR.len;have bt:=qh (B6 (vars:=E) (w0:=w0) (hT.ext M) (aj.trans aa) (bR.mono aj.size) (by omega) b0.1 b0.2.1 (by omega));have bo:=qh (And.intro b2 ay);clear b2 ay b0 ap
      go_wp2_with fail
      refine bt.out.mono ?_;intro e w7 hw;have hq:=Fw.q (p:=ts.map Es) hw bo.out.1 bo.out.2;obtain⟨rr,bp⟩:∃ r,Hid (resQ (E:Int) (ts.map Es)=r):=⟨_,qh rfl⟩;rw[bp.out]at hq;obtain⟨a7,n7,c7,rfl,bz,cP⟩:=hq;have d2:BS rr.1 a7 n7 c7 = .agg #[.int .i64 rr.1,.slice a7 n7 c7]:=rfl;rw[d2];have dj:(Ah rr.1 a7 n7 c7).toArray=#[.int .i64 rr.1,.slice a7 n7 c7]:=rfl;have bW:=hR.ext bz;clear hw bt
      go_wp2_with(refine Aa (vs:=Ah rr.1 a7 n7 c7) rfl rfl rfl rfl rfl Ad bW rfl (Am _ _ _ _) ?_;intro w8 cA cR)
      refine py (Ao rfl Ad rfl rfl cA) rfl ?_;exact Or.inr (Or.inr ⟨a5,a6,ba.out,by rw[bp.out];exact Kr M bz cP bW cR (lrf _)⟩)
 · have HF:Hid (∀ e w',Cl w 0 [] 3 e w'->Rc w vars ts e w'):=qh (fun e w' h=>Or.inl ⟨hv,h⟩);have ck:vars<0\/(¬ vars<0/\6<vars):=by omega
   clear hv b5;rcases ck with h1|⟨h1,h2⟩
   all_goals
    go_wp2_with(refine Aa (vs:=Ah 0 none 0 0) rfl rfl rfl rfl rfl Ad hR rfl (Am _ _ _ _) ?_;intro w9 L O)
    refine py (Ao rfl Ad rfl rfl L) rfl ?_;exact HF.out _ _ ⟨none,0,0,rfl,M.grownR O (lrf _),TmO.nil _ _⟩
theorem BP{b:Option Addr}{d:Nat}(g:SlI w a n c xs)(j:SlI w b m d ys) :
 Calls prog 92 #[.slice a n c,.slice b m d] w fun e F=>e = .returned (.bool (decide (xs=ys)))/\Qt w F:=by
 have L:=g.le;have E:=j.le;by_cases t:n=m
 · have x:((n:Int) != (m:Int))=false:=by simp[t]
   have y:=qh t;clear t
   go_enter func92,ntmps92
   go_wp2
   go_loopw[13] (fun i wr=>∃ k:Nat,k<=n/\i = .int .i64 k/\Qt w wr/\xs.take k=ys.take k) (fun i _=>n-(intOf i).toNat)
   case atStart=>exact⟨0,pE _,rfl,Qt.refl _,rfl⟩
   case round =>
    obtain⟨k,K,rfl,l,hp⟩:=hrel;have z:=qh hp;clear hp;have g:=g.ext l.ext;have j:=j.ext l.ext;by_cases q:k<n
    · have f:k<m:=by have:=y.out;omega
      obtain⟨G,M,rfl,o⟩:=g.at q;obtain⟨H,N,rfl,p⟩:=j.at f;have I:=o k q;have J:=p k f;clear o p;generalize r:xs.getD k 0=C at *
      generalize s:ys.getD k 0=D at *
      have A:=qh r;have B:=qh s;clear r s;go_wp2
      go_quiet (fail)
      by_cases he:(C != D)=true
      · go_wp2;go_ret;have:xs≠ys:=Oa (k:=k) (by rw[A.out,B.out];exact he);exact⟨by simp[this],l.drewN _⟩
      · have v:(C != D)=false:=by simpa using he
        go_wp2;go_roundw
        case rel=>exact⟨k+1,by omega,by go_num,l.drewN _,LS z.out (by have:=g.len;omega) (by have:=j.len;omega) (by rw[A.out,B.out];exact v)⟩
        case measure=>simp[intOf];omega
    · go_wp2;go_ret;refine⟨?_,l⟩;have h1:=z.out;have h2:=y.out;rw[pu (by have:=g.len;omega),pu (by have:=j.len;omega)]at h1;simp[h1]
 · have x:((n:Int) != (m:Int))=true:=by simp;omega
   go_enter func92,ntmps92
   go_wp2;go_ret;refine⟨?_,Qt.refl _⟩;have:xs≠ys:=by rintro rfl;exact t (g.len.symm.trans j.len)
   simp[this]
end Go.Proofs.YtlbmnokpiilfpaaGreatDoor
