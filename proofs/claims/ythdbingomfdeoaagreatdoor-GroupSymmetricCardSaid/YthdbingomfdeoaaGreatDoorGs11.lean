/- Part Gs11. -/
import Derived.Test.YthdbingomfdeoaaGreatDoorGs10
import Derived.Shelf.SlSortCmp.NoneTotal
set_option linter.all false
set_option maxRecDepth 100000
set_option maxHeartbeats 100000000
namespace Go.Proofs.YthdbingomfdeoaaGreatDoor
open Tryz Go Go.RowKit Go.Sort
def jx:=@List.getElem?_set_ne
def kH:=@Nat.le_of_eq
def kJ:=@Option.isSome_some
def kR:=@Rat.mul_one
def kU:=@Rat.pow_succ
def kw:=@Array.extract_eq_self_of_le
def lK:=@List.pairwise_singleton
def lP:=@List.getElem?_set_self
def lQ:=@Rat.mul_comm
def m7:=@Rat.pow_zero
def mJ:=@Rat.mul_inv_cancel
def mK:=@Option.isSome_none
def mM:=@List.take_add_one
def mj:=@Rat.intCast_add
def my:=@List.getElem?_take_of_lt
variable {s s':Bool} {rows:List (List Value)} {e te te':List Int} {base c d g m n:Nat} {a a' b b':Option Addr} {t:TypeId} {w:World}
def EV:Type:={ p:List Value×Pl.Tm // (∃ s a n c b m d,p.1=Ar p.2.1 s a n c b m d)/\p.2.1.length=6/\∀ x∈p.2.1,0<=x/\x<=1099511627776 }
def EV.enc(v:EV):List Value:=v.1.1
def EV.tm(v:EV):Pl.Tm:=v.1.2
instance : Inhabited EV:=⟨⟨(Ar ze false none 0 0 none 0 0,(ze,0)),⟨false,none,0,0,none,0,0,rfl⟩,rfl,by simp[ze]⟩⟩
theorem EV.len(v:EV):v.enc.length=10:=by
 obtain⟨⟨r,t⟩,⟨s,a,n,c,b,m,d,h⟩,h6,_⟩:=v;show r.length=10;rw[show r=_ from h,Dl,h6]
theorem EV.one(v:EV):∀ u∈v.enc,u.oneCell'=true:=by
 obtain⟨⟨r,t⟩,⟨s,a,n,c,b,m,d,h⟩,h6,_⟩:=v;intro u hu;have:r=Ar t.1 s a n c b m d:=h;subst this;exact BO u hu
theorem EV.nu(v:EV):∀ u∈v.enc,∀ i,u ≠ .int .u64 i:=by
 obtain⟨⟨r,t⟩,⟨s,a,n,c,b,m,d,h⟩,h6,_⟩:=v;intro u hu;have:r=Ar t.1 s a n c b m d:=h;subst this;exact BV u hu
theorem EV.six(v:EV):v.tm.1.length=6:=v.2.2.1
def cfE(x y:EV):Int:=Pl.ordE y.tm.1 x.tm.1
theorem Ns{x y:EV}(h:ltOf cfE x y=true):cfE x y<0:=gX h
theorem Il{x y:EV}(h:ltOf cfE x y=false):¬ cfE x y<0:=of_decide_eq_false h
theorem XU:SWO (ltOf cfE) where
 irrefl x:=fK (by unfold cfE;rw[Pl.ordE_self];omega)
 trans x y z h1 h2:=by
  have e:=Ns h1;have d:=Ns h2;unfold cfE at e d;have f:=Pl.ordE_anti x.tm.1 y.tm.1;have g:=Pl.ordE_anti y.tm.1 z.tm.1;have i:=Pl.ordE_anti x.tm.1 z.tm.1;have:=Pl.ordE_trans (a:=x.tm.1) (b:=y.tm.1) (c:=z.tm.1) (by omega) (by omega);exact gn (by unfold cfE;omega)
 ntrans x y z h1 h2:=by
  have e:=Il h1;have d:=Il h2;unfold cfE at e d;refine fK ?_;unfold cfE;intro h3;have f:=Pl.ordE_anti x.tm.1 y.tm.1;have g:=Pl.ordE_anti y.tm.1 z.tm.1;have i:=Pl.ordE_anti x.tm.1 z.tm.1;by_cases h:Pl.ordE y.tm.1 x.tm.1=0
  · rw[Pl.ordE_eq (by rw[x.six,y.six]) h]at d;omega
  · have:=Pl.ordE_trans (a:=y.tm.1) (b:=x.tm.1) (c:=z.tm.1) (by omega) (by omega);omega
theorem Nt(w:World)(A B:Obj)(n:Nat):((w.alloc A).alloc B).drewN n=grow (w.drewN n) #[A,B]:=by
 rw[alloc_eq_grow,alloc_eq_grow,grow_grow];rfl
theorem Mn(h:Arr w g t (Ar e s a n c b m d))(h6:e.length=6):SlI w (some ⟨g,0,none⟩) 6 6 e:=by
 refine⟨by simpa using h6,lrf _,by unfold maxLen;omega,fun _=>⟨g,0,rfl,fun i f => ?_⟩⟩;rw[fZ,h.cell (by rw[Dl];omega)];have h1:(Ar e s a n c b m d).getD i undef=(e.map (Value.int .i64)).getD i undef:=by
  unfold Ar;rw[gqq,fj (by simp;omega),<-gqq]
 rw[h1]
theorem O7{o c' l f:Nat}(h6:te.length=6)(I:te'.length=6)(M:∀ x∈te,0<=x/\x<=1099511627776)(g:∀ x∈te',0<=x/\x<=1099511627776) :
 Calls prog 108 #[.agg (Ar te s a n c b m d).toArray,.agg (Ar te' s' a' o c' b' l f).toArray] w fun e R=>e = .returned (.int .i64 (Pl.ordE te' te))/\∃ q Q,R=grow (w.drewN q) Q:=by
 have K:=fun(O:World) (h1:SlI O (some ⟨w.heap.size+1,0,none⟩) 6 6 te') (h2:SlI O (some ⟨w.heap.size,0,none⟩) 6 6 te)=>qh (J3 h1 h2 (by omega) (fun z J=>by have:=g z J;omega) (fun z J=>by have:=M z J;omega));obtain⟨V,L⟩:∃ V,Pl.ordE te' te=V:=⟨_,rfl⟩;rw[L]at K |-;clear M g L;obtain⟨p,r,t,v,y,A,P⟩:=FE h6;obtain⟨B,C,D,E,F,G,H⟩:=FE I;subst P;subst H
 have N:(Ar [p,r,t,v,y,A] s a n c b m d).toArray=#[.int .i64 p,.int .i64 r,.int .i64 t,.int .i64 v,.int .i64 y,.int .i64 A,.bool s,.slice a n c,.bool false,.slice b m d]:=rfl;have i:(Ar [B,C,D,E,F,G] s' a' o c' b' l f).toArray=#[.int .i64 B,.int .i64 C,.int .i64 D,.int .i64 E,.int .i64 F,.int .i64 G,.bool s',.slice a' o c',.bool false,.slice b' l f]:=rfl;have hA0:=KQ w (Ar [p,r,t,v,y,A] s a n c b m d) (Ar [B,C,D,E,F,G] s' a' o c' b' l f) 135 135
 have hA1:=KR w (Ar [p,r,t,v,y,A] s a n c b m d) (Ar [B,C,D,E,F,G] s' a' o c' b' l f) 135 135;have j:=Mn hA0 rfl;have k:=Mn hA1 rfl;rw[N,i]at j k;rw[N,i];clear hA0 hA1
 go_enter func108,ntmps108
 go_wp2
 go_quiet (exact jR (K _ (k.ext ((Ext.refl _).drewN _)) (j.ext ((Ext.refl _).drewN _))).out)
 go_wp2;go_ret;exact⟨rfl,nq,_,Nt _ _ _ _⟩
theorem Re(x y:EV)(w:World):Calls prog 108 #[.agg x.enc.toArray,.agg y.enc.toArray] w fun e G=>e = .returned (.int .i64 (cfE x y))/\∃ q C,G=grow (w.drewN q) C:=by
 obtain⟨⟨r,t⟩,⟨s,a,n,c,b,m,d,h⟩,h6,z⟩:=x;obtain⟨⟨D,F⟩,⟨E,i,B,k,j,A,l,v⟩,f,g⟩:=y;have o:r=Ar t.1 s a n c b m d:=h;have p:D=Ar F.1 E i B k j A l:=v;subst o;subst p;exact O7 h6 f z g
theorem Ez(d:Array EV):(flatK EV.enc 10 d).toList=(d.toList.map EV.enc).flatten:=by
 have e:∀ r∈d.toList.map EV.enc,r.length=10:=by
  intro r g;obtain⟨v,_,rfl⟩:=fy.1 g;exact v.len
 refine iw fun j => ?_;by_cases f:j<d.size*10
 · have b:j=j/10*10+j%10:=by omega
   have a:j/10<d.size:=by omega
   have h3:=Es (d.toList.map EV.enc) e (j/10) (j%10) (by omega);rw[<-b]at h3;rw[h3];have c:d[j/10].enc.length=10:=EV.len _;simp[flatK,f,a];rw[eZ (by rw[c];omega)];rfl
 · have h1:(flatK EV.enc 10 d).toList.length<=j:=by simp;omega
   have h2:(d.toList.map EV.enc).flatten.length<=j:=by rw[Cm _ e];simp;omega
   rw[fH h1,fH h2]
theorem Nu(w:World)(g m:Nat)(dk:Array EV)(os:Array Obj):w.grownBy (sortWorldK EV.enc 10 w g 0 m dk os) (some g):=by
 refine⟨rfl,rfl,rfl,by unfold sortWorldK putRowK;simp,fun k b a => ?_⟩;unfold sortWorldK putRowK;rw[heap_grow_old _ _ (by simpa using b)];have:g≠k:=by rintro rfl;exact a rfl
 simp[putRow,mapBlock,iA,this]
theorem Rf{e:TypeId}{dk:Array EV}(os:Array Obj)(h:AE w base e 10 (some ⟨g,0,none⟩) n c rows)(z:dk.size=n)(x:NoU w g) :
 AE (sortWorldK EV.enc 10 w g 0 m dk os) base e 10 (some ⟨g,0,none⟩) n c (dk.toList.map EV.enc)/\NoU (sortWorldK EV.enc 10 w g 0 m dk os) g:=by
 rcases h.2.2 with⟨o,_⟩|⟨B,t,a,o,y,p,h1,h2,h3,h4⟩
 · simp at o
 simp only[fd,fc,gz,ij,kf]at o;obtain⟨rfl,rfl⟩:=o;have q:g<w.heap.size:=by
  rcases fS g w.heap.size with h|h
  · exact h
  · simp[gQ h]at p
 have d:(flatK EV.enc 10 dk).size=n*10:=by rw[size_flatK,z]
 have f:(sortWorldK EV.enc 10 w g 0 m dk os).heap[g]?=some (.cells (putCells id 0 (flatK EV.enc 10 dk) a) e (0,0)):=by
  unfold sortWorldK putRowK;rw[heap_grow_old _ _ (by simpa using q)];simp[putRow,mapBlock,iA,p,onCells]
 have k:∀ j,(putCells id 0 (flatK EV.enc 10 dk) a)[j]?=if j<a.size then(if j<n*10 then(flatK EV.enc 10 dk)[j]? else a[j]?)else none:=by
  intro j;unfold putCells;rw[Array.getElem?_mapIdx];by_cases l:j<a.size
  · rw[fG l,jl l];simp only[ic,fu,kf,fZ,d,id,jn];by_cases b:j<n*10
    · rw[fG b,fG b,jl (by rw[d];exact b)];simp[d,b]
    · rw[fl b,fl b]
  · rw[fl l,gQ (by omega)];rfl
 have A:n*10<=a.size:=by rw[h3];exact fa 10 h1
 refine⟨⟨?_,?_,Or.inr ⟨g,c,putCells id 0 (flatK EV.enc 10 dk) a,rfl,y,f,h1,h2,by simp[putCells,h3],?_⟩⟩,?_⟩
 · intro r s;obtain⟨v,_,rfl⟩:=fy.1 s;exact v.len
 · rw[<-Ez];simp[d]
 · rw[<-Ez];refine iw fun j => ?_;rw[List.getElem?_take];by_cases l:j<n*10
   · rw[fG l];have:=k j;rw[fG (by omega),fG l]at this;simpa using this
   · rw[fl l,fH (by simp[d];omega)]
 · intro j i he;rw[lW _ g _ _ e (0,0) f,k j]at he;split at he
   · split at he
     · have h5:(flatK EV.enc 10 dk).toList[j]?=some (.int .u64 i):=by simpa using he
       rw[Ez]at h5;obtain⟨r,s,hu⟩:=kc.1 (gS h5);obtain⟨v,_,rfl⟩:=fy.1 s;exact v.nu _ hu i rfl
     · refine x j i ?_;rw[lW w g _ a e (0,0) p];exact he
   · cases he
def O8(l:List Pl.Tm):Prop:=∀ t∈l,t.1.length=6/\∀ x∈t.1,0<=x/\x<=1099511627776
theorem GY{l:List Pl.Tm}(O:F0 w base a n c l)(hb:O8 l)(hn:n<=1000000) :
 Calls prog 107 #[.slice a n c,.func (.func 108) #[] #[]] w fun e N=>e = .returned (.tuple #[])/\∃ Z,Z.Perm l/\Pl.desc Z/\F0 N base a n c Z/\w.grownBy N (blk a):=by
 rcases fF n with h0|h0
 · subst h0;refine(AnyF.slices_SortFunc_none VZ a c _ w).mono ?_;rintro e N ⟨rfl,rfl⟩;refine⟨rfl,l,kT _,?_,O,ln _ _⟩;have:l=[]:=fk O.len;subst this;exact List.Pairwise.nil
 · obtain⟨p,h1,h2,h3,h4⟩:=O;obtain⟨g,rfl,a3,S⟩:=h1.place h0;have hU:=h2 g rfl;have J:=h1.slk (by omega);have Q:∀ i,∃ v:EV,i<n->v.enc=p.getD i []/\v.tm=l.getD i ([],0):=by
    intro i;by_cases z:i<n
    · obtain⟨s,a,n',c',b,m,d,F,e2,e3⟩:=h4 i z;have hm:=hb (l.getD i ([],0)) (by simp[show i<l.length by omega]);exact⟨⟨(p.getD i [],l.getD i ([],0)),⟨s,a,n',c',b,m,d,F⟩,hm.1,hm.2⟩,fun _=>⟨rfl,rfl⟩⟩
    · exact⟨default,fun h=>absurd h z⟩
   obtain⟨f,K⟩:=Classical.axiomOfChoice Q
   let d:Array EV:=((List.range n).map f).toArray
   have A:d.size=n:=by simp[d]
   have P:∀ i,i<n->d[i]! = f i:=fun i z=>by simp[d,z]
   have hH:HoldsK EV.enc 10 w g 0 d:=by
    intro j L;rw[size_flatK,A]at L;rw[fZ,get_flatK _ _ _ _ (by rw[A];exact L)];obtain⟨b',a4,F,hc⟩:=J.rd h0;simp only[fc,gz,ij]at F;obtain⟨rfl,rfl⟩:=F;have B:j/10<n:=by omega
    have G:=hc (j/10) B (j%10) (by omega);have V:0+j/10*10+j%10=j:=by omega
    rw[V]at G;refine⟨?_,?_⟩
    · rw[G,P _ B,(K _ B).1];have W:=J.row B;have h9:j%10<(p.getD (j/10) []).length:=by rw[W];omega
      simp only[id,fc];rw[gqq,eZ h9,getElem!_pos (p.getD (j/10) []) (j%10) h9];rfl
    · rcases h1.2.2 with⟨M,_⟩|⟨g1,a0,a1,M,a2,hh,_⟩
      · simp at M
      simp only[fd,fc,gz,ij,kf]at M;rw[M.1];simp[World.frozen?,hh]
   have eg:∀ C w,(callFunc 108 C).run prog w = .ok (.enter 108 C) w:=enters_of func108 (by kernel_rfl) rfl;have H:CmpLays prog 108 #[] EV.enc 10 cfE g 0 d.size w:=fun m os dk _ x y=>Re x y _;have h:=AnyQ.slices_SortFunc VZ 10 (fun w=>Tryz.isAgg135 w) (fun w=>Tryz.sizeOf135 w) EV.enc EV.len EV.one cfE XU 108 #[] g 0 c d w eg H hH S (by omega);rw[A]at h;refine h.mono ?_;rintro e N ⟨rfl,o,q,os,hp,X,rfl⟩;obtain⟨p1,_,p3⟩:=hp;have D:o.size=n:=by rw[p1,A]
   have t:o.toList.Perm d.toList:=by
    rw[kw (by omega),kw (by omega)]at p3;exact p3
   have I:=Nu w g q o os;obtain⟨o1,o2⟩:=Rf (m:=q) (dk:=o) os h1 D hU;have Y:d.toList.map EV.tm=l:=by
    apply iQ
    · simp[d,h3]
    · intro i i1 i2;have z:i<n:=by omega
      simp only[d,j4,List.getElem_map,List.getElem_range,Function.comp];rw[(K i z).2];simp[i2]
   refine⟨rfl,o.toList.map EV.tm,?_,?_,⟨o.toList.map EV.enc,o1,fun g' R => ?_,by simp[D],fun i z => ?_⟩,I⟩
   · rw[<-Y];exact t.map _
   · unfold Pl.desc;rw[iV];rw[gt];intro i j z L T;have r:i<o.size:=by simpa using z
     have U:j<o.size:=by simpa using L
     have h5:=Il (X i j (fu _) T (by omega));unfold cfE at h5;rw[getElem!_pos o i r,getElem!_pos o j U]at h5;have h6:=Pl.ordE_anti o[i].tm.1 o[j].tm.1;simp only[Array.getElem_toList];omega
   · have:g=g':=by simpa[blk]using R
     subst this;exact o2
   · have r:i<o.toList.length:=by simpa[D]using z
     obtain⟨k,hk,e⟩:=io.1 (t.mem_iff.1 (fE r));have E:k<n:=by simpa[d]using hk
     have F:o.toList[i]=f k:=by rw[<-e];simp[d]
     have h7:=h4 k E;rw[<-(K k E).1,<-(K k E).2,<-F]at h7;have e2:(o.toList.map EV.enc).getD i []=o.toList[i].enc:=by rw[gqq,jD,eZ r];rfl
     have e3:(o.toList.map EV.tm).getD i ([],0)=o.toList[i].tm:=by rw[gqq,jD,eZ r];rfl
     rw[e2,e3];exact h7.keptU hU I
end Go.Proofs.YthdbingomfdeoaaGreatDoor
namespace Go.Proofs.YthdbingomfdeoaaGreatDoor
open Tryz Go Go.RowKit
variable {f:Act} {ops:Array Oper} {Q:Exit->Act->World->Prop} {va vars:Int} {rows:List (List Value)} {xs:List Int} {rest:List Oper} {cs cs' cur:List Value} {R b b' base c g k n p:Nat} {o:Oper} {d i s x:Operand} {A a:Option Addr} {dT e e' et sT t ty:TypeId} {z:Value} {w w' w0:World}
section
variable {P:Program} {w:World}
theorem UP{bytes d dc m:Nat}(E:P.underlying dT=some (.slice e))(f:A9 P e z bytes)
 (h:Arr w g t cur) (C:cur.length=d) (D:Sl w A m c cs) (s:d<=m) (h1:∀ v∈cs,v.oneCell'=true) :
 ∃ y,(Builtin.copy_ #[dT,sT] ty #[.slice (some ⟨g,0,none⟩) d dc,.slice A m c]).run P w = .ok (goInt d) y/\Arr y g t (cs.take d)/\w.grownBy y (some g):=by
 obtain⟨i,J,L,k,H⟩:=jT f;have p:(P.info? e).map (·.size)=some 1:=by simp[J,k]
 have l:=D.len;by_cases h0:d=0
 · subst h0;have r:cur=[]:=fk C;refine⟨w,run_copy_none w dT sT ty e _ _ 0 dc m c E p (by simp),?_,⟨rfl,rfl,rfl,lrf _,fun _ _ _=>rfl⟩⟩;rw[jc,<-r];exact h
 · obtain⟨b,x,G,I⟩:=D.rd (by omega);subst G;have o:m.min d=d:=Nat.min_eq_right s
   have:=run_copy_row (P:=P) w dT sT ty e g 0 d dc ⟨b,x,none⟩ m c cur.toArray t (cs.take d) E p h (by rw[o,go,l];exact jf s) (by
    intro j v q;have K:j<(cs.take d).length:=by
     rcases fS j (cs.take d).length with h|h
     · exact h
     · simp[fH h]at q
    rw[go]at K;have h2:=I j (by omega);rw[my (by omega)]at q;rw[gqq,q]at h2;rw[<-fW (a:=v) (b:=undef),<-h2.symm.symm];unfold Addr.add
    by_cases h3:j=0 <;> simp[h3]at h2 |- <;> exact h2) (by simp[C];omega) (fun v q=>h1 v (im q))
   have n:(cs.take d).length=d:=by rw[go,l];exact jf s
   refine⟨_,by rw[this,n],?_,BH w g _⟩;have h9:=C4 h (cur.take 0 ++ cs.take d ++ cur.drop (0+(cs.take d).length));rw[n]at h9;have B:cur.take 0 ++ cs.take d ++ cur.drop (0+d)=cs.take d:=by
    rw[jc,iM,fZ,gu (by omega),iO]
   rw[B]at h9;have F:cur.toArray.toList.take 0 ++ cs.take d ++ cur.toArray.toList.drop (0+d)=cs.take d:=B;rw[F];exact h9
theorem Wl(n:o.guard=none)
 (B:o.op = .call { callee := .builtin .copy,args:=#[d,s],argTypes:=#[dT,sT] })
 {e:TypeId} {z:Value} {bytes g i dc m c:Nat} {A:Option Addr} {t:TypeId} {b cs:List Value} (D:P.underlying dT=some (.slice e)) (a:A9 P e z bytes)
 (r:f.eval d = .slice (some ⟨g,0,none⟩) i dc) (p:f.eval s = .slice A m c)
 (h:Arr w g t b) (x:b.length=i) (C:Sl w A m c cs) (y:i<=m) (h1:∀ v∈cs,v.oneCell'=true)
 (q:∀ k,Arr k g t (cs.take i)->w.grownBy k (some g)->wpList P ops Q rest (f.put o.dst (goInt i)) k):wpList P ops Q (o :: rest) f w:=by
 refine gI n fun K l => ?_;obtain⟨k,j,h2,h3⟩:=UP (P:=P) (ty:=o.type) (sT:=sT) (dc:=dc) D a h x C y h1;unfold Oper.wp execOp;simp only[B,resolve,invoke,builtin,fC,fQ,fe,iP,gD,iF,r,p,j,Oper.upon];exact l _ _ (q k h2 h3)
end
def UQ(w:World)(g:Nat)(xs:List Int):Prop:=Arr w g 3 (xs.map (Value.int .i64))
theorem UQ.own(h:UQ w g xs)(a:base<=g)(b:xs.length<=maxLen):Own w base 3 (some ⟨g,0,none⟩) xs.length xs.length (xs.map (Value.int .i64)):=by
 refine⟨by simp,Or.inr ⟨g,xs.length,(xs.map (Value.int .i64)).toArray,rfl,a,h,lrf _,b,by simp,?_⟩⟩;rw[je];exact f9 (by simp)
theorem Ff(h:Own w base e a n c cs)(d:Arr w p t cs')(l:t≠e):blk a≠some p:=by
 rcases h.2 with⟨b,_⟩|⟨g,i,j,b,_,k,_⟩
 · simp only[fd]at b;rw[b.1];simp[blk]
 · simp only[fd]at b;rw[b.1];intro he;have f:g=p:=by simpa[blk]using he
   subst f;unfold Arr at d;rw[k]at d;simp only[fc,jm]at d;exact l d.2.1.symm
theorem Im:Cq prog 46 (tmL ⟨#[]⟩ none 0 0) 2 40:=⟨by kernel_rfl,rfl,by omega⟩
def Jm(w:World)(base:Nat)(row:List Value)(t:Tx):Prop:=∃ s a n c,row=tmL s a n c/\Ah s=t.1/\Own w base 3 a n c (t.2.map (Value.int .i64))
def TmO(w:World)(base:Nat)(a:Option Addr)(n c:Nat)(ts:List Tx):Prop:=∃ rows,AE w base 46 2 a n c rows/\ts.length=n/\∀ i,i<n->Jm w base (rows.getD i []) (ts.getD i tm0)
theorem Jm.ext{w b:World}{base:Nat}{row:List Value}{t:Tx}(h:Jm w base row t)(e:Ext w b):Jm b base row t:=by
 obtain⟨s,a,n,c,h1,h2,h3⟩:=h;exact⟨s,a,n,c,h1,h2,h3.ext e⟩
theorem TmO.ext{w d:World}{base:Nat}{a:Option Addr}{n c:Nat}{ts:List Tx}(h:TmO w base a n c ts)(e:Ext w d):TmO d base a n c ts:=by
 obtain⟨b,h1,h2,h3⟩:=h;exact⟨b,h1.ext e,h2,fun i f=>(h3 i f).ext e⟩
theorem TmO.sl{w:World}{base:Nat}{a:Option Addr}{n c:Nat}{ts:List Tx}(h:TmO w base a n c ts):CP w a n c ts:=by
 obtain⟨b,h1,h2,h3⟩:=h;refine⟨b,h1.slk (by omega),h2,fun i k => ?_⟩;obtain⟨s,d,l,e,f,g,j⟩:=h3 i k;exact⟨s,d,l,e,f,g,j.sl⟩
theorem TmO.nil(w:World)(base:Nat):TmO w base none 0 0 []:=⟨[],AE.nil _ _ _ _,rfl,fun i a=>absurd a (by omega)⟩
theorem TmO.mono{w:World}{base b:Nat}{a:Option Addr}{n c:Nat}{ts:List Tx}(h:TmO w base a n c ts)(e:b<=base):TmO w b a n c ts:=by
 obtain⟨d,h1,h2,h3⟩:=h;refine⟨d,h1.mono e,h2,fun i m => ?_⟩;obtain⟨s,f,o,g,j,k,l⟩:=h3 i m;exact⟨s,f,o,g,j,k,l.mono e⟩
theorem Fg{v c':Nat}(h:Own w b e a n c cs)(r:AE w b' e' k (some ⟨g,0,none⟩) v c' rows)(t:e≠e'):blk a≠some g:=by
 rcases r.2.2 with⟨i,_⟩|⟨x,o,p,i,_,s,_⟩
 · simp at i
 simp only[fd,fc,gz,ij,kf]at i;rcases h.2 with⟨f,_⟩|⟨q,l,m,f,_,d,_⟩
 · simp only[fd]at f;rw[f.1];simp[blk]
 · simp only[fd]at f;rw[f.1];intro he;have j:q=g:=by simpa[blk]using he
   rw[j]at d;rw[i.1]at d;rw[s]at d;simp only[fc,jm]at d;exact t d.2.1.symm
def Fh(q:Rat):Prop:=∀ (w:World) (v:Value),Bk w->BI w v q->Calls prog 62 #[v] w fun e w'=>e = .returned (.string ⟨(txt q).toArray⟩)/\Ext w w'
theorem UR{q:Rat}(b:q.num.natAbs<P2 8064)(c:q.den<P2 8064):Fh q:=fun _ _ a h=>GI a h b c
theorem Lu{q:Rat}(a:q.num.natAbs<P2 1920)(b:q.den<P2 1920):Fh q:=UR (Ak a (by omega)) (Ak b (by omega))
def wrT(vars:Nat)(l:List Pl.Tm):List Tx:=l.map (fun t=>(txt t.2,t.1.take vars))
def Qe(vars:Int)(a:Option Addr)(n c:Nat):Value := .agg #[.int .i64 vars,.slice a n c]
def Mo(w0:World)(vars:Int)(ts:List Tx)(err:Int)(e:Ending)(w':World):Prop:=∃ a n c,e = .returned (.tuple #[Qe vars a n c,.int .i64 err])/\Ext w0 w'/\TmO w' w0.heap.size a n c ts
def AF(vars:Int)(a:Option Addr)(n c:Nat):List Value:=[.int .i64 vars,.slice a n c]
theorem AW(vars:Int)(a:Option Addr)(n c:Nat):∀ v∈AF vars a n c,v.oneCell'=true:=by
 intro v b;simp only[AF,fV,ib,kx]at b;rcases b with rfl|rfl <;> rfl
def okW(l:List Pl.Tm):Prop:=l.length<=4096/\∀ t r,l=t :: r->Ci t.1=true
def Qf(w0:World)(vars:Nat)(l:List Pl.Tm)(e:Ending)(w':World):Prop:=∃ l',l'.Perm l/\((Pl.desc l'/\okW l'/\Mo w0 vars (wrT vars l') 0 e w')\/((4096<l.length\/(Pl.desc l'/\¬ okW l'))/\Mo w0 0 [] 2 e w'))
theorem O9{vars:Nat}{l:List Pl.Tm}(b1:Bk w0)(ad:Ext w0 w)(V:F0 w w0.heap.size a n c l)(hv:vars<=6)(hb:O8 l)(aM:∀ t∈l,Fh t.2)(hn:n<=1000000) :
 Calls prog 68 #[.int .i64 vars,.slice a n c] w (Qf w0 vars l):=by
 have aL:=fun(j:World) (f:Ext w j)=>qh (GY (V.ext f) hb hn);have aX:=qh aM;have aV:=qh V.len;have ay:=qh (fun g hg=>(by obtain⟨ac,h1,_⟩:=V;exact h1.lt hg:w0.heap.size<=g/\g<w.heap.size):∀ g,blk a=some g->w0.heap.size<=g/\g<w.heap.size);have aR:=GY V hb hn;have b2:Bk w0:=b1;have bs:=V.len
 go_enter func68,ntmps68
 go_upto_region 1 with(fail)
 refine Bv ?_;intro w1 ae aC b8;have hR:Arr w1 w.heap.size 24 (AF 0 none 0 0):=aC;have ar:=aL w1 ae;have h01:=ad.trans ae;have bu:(AF 0 none 0 0).toArray=#[.int .i64 0,.slice none 0 0]:=rfl;clear aC b8 aL aR aM V;by_cases bp:4096<n
 · go_wp2_with(refine Aa (vs:=AF 0 none 0 0) rfl rfl rfl rfl rfl Ax hR rfl (AW _ _ _ _) ?_;intro w9 I q)
   refine fh (Az rfl Ax rfl rfl I) rfl ?_;exact⟨l,kT _,Or.inr ⟨Or.inl (by have:=aV.out;omega),none,0,0,rfl,h01.grownR q ad.size,TmO.nil _ _⟩⟩
 · go_wp2_with fail
   refine ar.out.mono ?_;rintro e w2 ⟨rfl,D,O,an,T,a6⟩;have HP:=qh (And.intro O an);have M:Arr w2 w.heap.size 24 (AF 0 none 0 0):=hR.kept a6 (fun he=>by have:=(ay.out _ he.symm).2;omega);have h02:Ext w0 w2:=h01.grown a6 (fun k hk=>(ay.out k hk).1);have aT:w.heap.size<w2.heap.size:=M.lt;have C:=T.len;have aO:Hid (∀ t∈D,Fh t.2):=qh (fun t ht=>aX.out t (O.mem_iff.1 ht));clear O an ar a6 hR ae;have ab:=ad.size;have b9:n=0\/(∃ t r,D=t :: r/\Ci t.1=true)\/(∃ t r,D=t :: r/\Ci t.1=false):=by
    rcases fF n with h|h
    · exact Or.inl h
    · right;cases D with
      | nil=>simp at C;omega
      | cons t r=>cases aN:Ci t.1 with
       | true=>exact Or.inl ⟨t,r,rfl,aN⟩
       | false=>exact Or.inr ⟨t,r,rfl,aN⟩
   have R:n=0->okW D:=fun h=>⟨by omega,fun t r e=>by rw[e]at C;simp at C;omega⟩;have a4:0<n->∃ g,a=some ⟨g,0,none⟩/\∀ t r,D=t :: r->∀ j,Ext w2 j->Hid (Calls prog 57 #[.slice (some ⟨g,0,none⟩) 6 6] j fun e w'=>e = .returned (.bool (Ci t.1))/\Qt j w'):=by
    intro h0;obtain⟨ac,h1,h2,h3,h4⟩:=T;obtain⟨g,rfl,br,a6⟩:=h1.place h0;refine⟨g,rfl,fun t r Y j f=>qh ?_⟩;obtain⟨s,a',n',c',b,m,d,e1,e2,e3⟩:=h4 0 h0;have a7:=h1.slk (by omega);obtain⟨b',bn,e4,hc⟩:=a7.rd h0;simp only[fc,gz,ij]at e4;obtain⟨rfl,rfl⟩:=e4;rw[Y]at e1 e2;have b7:SlI w2 (some ⟨g,0,none⟩) 6 6 t.1:=by
     refine⟨by simpa using e2,lrf _,by unfold maxLen;omega,fun _=>⟨g,0,rfl,fun i hi => ?_⟩⟩;have h5:=hc 0 h0 i (by omega);rw[e1]at h5;rw[iE]at h5;rw[h5];have:((t :: r).getD 0 ([],0))=t:=rfl;rw[this]at e2 |-;have h1:(Ar t.1 s a' n' c' b m d).getD i undef=(t.1.map (Value.int .i64)).getD i undef:=by
      unfold Ar;rw[gqq,fj (by simp[e2];omega),<-gqq]
     rw[h1]
    exact(Ex (b7.ext f)).mono fun _ _ h=>⟨h.1,h.2 ▸ Qt.refl _⟩
   rcases b9 with h0|⟨t,r,Y,P⟩|⟨t,r,Y,P⟩
   · have aK:=R h0;have W:=qh aK;clear aK R a4;have aJ:¬ ((0:Int)<(n:Int)):=by omega
     clear h0;have hY:=fun j:World=>Arr.new j 24 (AF 0 none 0 0)
     go_upto_region 7 with(first
      | (refine P3 rfl rfl (by kernel_rfl) Im rfl rfl (by omega) (by unfold maxLen;omega) ?_;intro w4 J Z)
      | (refine Aa (vs:=AF vars (some ⟨w2.heap.size,0,none⟩) n n) rfl rfl rfl rfl rfl Ax (hY _) rfl (AW _ _ _ _) ?_;intro w5 B a2))
     have p:Ext w4 w5:=((Ext.refl w4).alloc _).grownR a2 (lrf _);have F:=Z.trans p;have K:AE w5 w0.heap.size 46 2 (some ⟨w2.heap.size,0,none⟩) n n (List.replicate n (tmL ⟨#[]⟩ none 0 0)):=(J.ext p).mono h02.size;have U:w4.heap.size≠w2.heap.size:=by have:=(J.lt (g:=w2.heap.size) rfl).2;omega
     obtain⟨PB,a0⟩:∃ x,w4.heap.size=x:=⟨_,rfl⟩;obtain⟨G,hG⟩:∃ x,w2.heap.size=x:=⟨_,rfl⟩;rw[a0]at B U;rw[hG]at B U K;rw[a0];clear hY J Z p a2;obtain⟨ac,hK,hU,b5,a3⟩:=T;have aw:=qh a3;have aE:=hK.slk (by omega);clear a3 hU hK;go_wp2
     go_loopw[35] (fun iv wr=>∃ (k:Nat) (rs:List (List Value)),iv = .int .i64 k/\k<=n/\Ext w2 wr/\AE wr w0.heap.size 46 2 (some ⟨G,0,none⟩) n n rs/\Arr wr PB 24 (AF vars (some ⟨G,0,none⟩) n n)/\Hid (∀ i,i<k->Jm wr w0.heap.size (rs.getD i []) ((wrT vars D).getD i tm0))) (fun iv _=>n-(intOf iv).toNat)
     case atStart=>exact⟨0,_,rfl,fu _,F,K,B,qh (fun i hi=>absurd hi (by omega))⟩
     case round =>
      clear K B F;obtain⟨k,rs,rfl,hk,hE,V,hP,HC⟩:=hrel;by_cases N:k<n
      · exfalso;omega
      · have ak:k=n:=by omega
        subst ak;have q0:=hP.c 0 rfl;have q1:=hP.c 1 rfl;have a1:=M.ext hE;have b6:(AF vars (some ⟨G,0,none⟩) k k).toArray=#[.int .i64 vars,.slice (some ⟨G,0,none⟩) k k]:=rfl
        go_wp2_with(refine Aa (vs:=AF vars (some ⟨G,0,none⟩) k k) rfl rfl rfl rfl rfl Ax a1 rfl (AW _ _ _ _) ?_;intro w9 I q)
        refine fh (Az rfl Ax rfl rfl I) rfl ?_;have ai:w.heap.size≠G:=by omega
        refine⟨D,HP.out.1,Or.inl ⟨HP.out.2,W.out,_,k,k,rfl,(h02.trans hE).grownR q ab,rs,V.kept q (Or.inr (by simpa[blk]using fun h=>ai h.symm)),by simp[wrT,C],fun i hi => ?_⟩⟩;obtain⟨s9,a9,n9,c9,e1,e2,e3⟩:=HC.out i hi;exact⟨s9,a9,n9,c9,e1,e2,e3.kept q (Or.inr (Ff e3 a1 (by decide)))⟩
   · have al:0<n:=by rw[<-C,Y];simp
     obtain⟨g,rfl,H⟩:=a4 al;have z:=H t r Y;clear a4;have W:Hid (okW D):=qh ⟨by omega,fun t' r' e=>by rw[Y]at e;cases e;exact P⟩;have aJ:(0:Int)<(n:Int):=by omega
     rw[P]at z;clear H R P Y
     go_wp2_with fail
     refine(z _ (Ext.refl _)).out.mono ?_;rintro e w3 ⟨rfl,L⟩;have T:=T.ext L.ext;have M:=M.ext L.ext;have h02:=h02.trans L.ext;have aT:w.heap.size<w3.heap.size:=M.lt;clear z L;generalize (some (⟨g,0,none⟩:Addr))=A at *
     have hY:=fun j:World=>Arr.new j 24 (AF 0 none 0 0)
     go_upto_region 7 with(first
      | (refine P3 rfl rfl (by kernel_rfl) Im rfl rfl (by omega) (by unfold maxLen;omega) ?_;intro w4 J Z)
      | (refine Aa (vs:=AF vars (some ⟨w3.heap.size,0,none⟩) n n) rfl rfl rfl rfl rfl Ax (hY _) rfl (AW _ _ _ _) ?_;intro w5 B a2))
     have p:Ext w4 w5:=((Ext.refl w4).alloc _).grownR a2 (lrf _);have F:=Z.trans p;have K:AE w5 w0.heap.size 46 2 (some ⟨w3.heap.size,0,none⟩) n n (List.replicate n (tmL ⟨#[]⟩ none 0 0)):=(J.ext p).mono h02.size;have U:w4.heap.size≠w3.heap.size:=by have:=(J.lt (g:=w3.heap.size) rfl).2;omega
     obtain⟨PB,a0⟩:∃ x,w4.heap.size=x:=⟨_,rfl⟩;obtain⟨G,hG⟩:∃ x,w3.heap.size=x:=⟨_,rfl⟩;rw[a0]at B U;rw[hG]at B U K;rw[a0];clear hY J Z p a2;obtain⟨ac,hK,hU,b5,a3⟩:=T;have aw:=qh a3;have aE:=hK.slk (by omega);clear a3 hU hK;go_wp2
     go_loopw[35] (fun iv wr=>∃ (k:Nat) (rs:List (List Value)),iv = .int .i64 k/\k<=n/\Ext w3 wr/\AE wr w0.heap.size 46 2 (some ⟨G,0,none⟩) n n rs/\Arr wr PB 24 (AF vars (some ⟨G,0,none⟩) n n)/\Hid (∀ i,i<k->Jm wr w0.heap.size (rs.getD i []) ((wrT vars D).getD i tm0))) (fun iv _=>n-(intOf iv).toNat)
     case atStart=>exact⟨0,_,rfl,fu _,F,K,B,qh (fun i hi=>absurd hi (by omega))⟩
     case round =>
      clear K B F;obtain⟨k,rs,rfl,hk,hE,V,hP,HC⟩:=hrel;by_cases N:k<n
      · have aj:=aE.ext hE;obtain⟨bb,bn,ha,_⟩:=aj.rd (by omega)
        first
         | subst ha
         | (simp only[fc,gz,ij]at ha;obtain⟨rfl,rfl⟩:=ha)
        obtain⟨sx,ax,nx,cx,bx,mx,dx,aa,h6,am⟩:=aw.out k N;have HM:Hid ((wrT vars D).getD k tm0=(txt (D.getD k ([],0)).2,(D.getD k ([],0)).1.take vars)):=qh (by simp[wrT,C,N]);have az:Hid (Fh (D.getD k ([],0)).2):=qh (aO.out _ (by simp[C,N]));generalize D.getD k ([],0)=t at *
        obtain⟨te,tq⟩:=t;obtain⟨x0,x1,x2,x3,x4,x5,aB⟩:=FE h6;simp only at aB aa HM am az;subst aB;have hY:=Arr.new wr 135 (Ar [0,0,0,0,0,0] false none 0 0 none 0 0)
        go_upto_region 10 with(first
         | (refine Dz rfl rfl AX rfl aj N ?_;rw[aa])
         | (refine Aa (vs:=(Ar [x0,x1,x2,x3,x4,x5] sx ax nx cx bx mx dx)) rfl rfl rfl rfl rfl AX hY rfl BO ?_;intro w6 S aH))
        have af:Ext wr w6:=((Ext.refl wr).alloc _).grownR aH (lrf _);have bo:wr.heap.size<w6.heap.size:=S.lt;obtain⟨X,hX⟩:∃ x,wr.heap.size=x:=⟨_,rfl⟩;rw[hX]at S;rw[hX];have a7:=Mn S rfl;clear hY aH aa h6 aj
        go_upto_region 11 with(refine EX (n:=vars) rfl rfl underlying35 GW rfl rfl rfl (by omega) (by unfold maxLen;omega) ?_;intro w7 aF a5)
        have hA7:=Own.arr aF;have aq:=a7.ext a5;have zc:w7.cell? ⟨X,0,none⟩=some (.int .i64 x0):=(S.ext a5).cell (i:=0) (by simp[Ar])
        go_upto_region 12 with(refine Wl (sT:=35) rfl rfl underlying35 GW rfl rfl hA7 (by simp) aq hv (A4 _) ?_;intro w8 hA8 aI)
        have a8:Ext w6 w8:=a5.grownR aI (lrf _);have y:=af.trans a8;have ao:=hE.trans y;have aG:=V.ext y;have ah:=hP.ext y;have o:=S.ext a8;have aU:Hid (∀ i,i<k->Jm w8 w0.heap.size (rs.getD i []) ((wrT vars D).getD i tm0)):=qh fun i hi=>(HC.out i hi).ext y;have ap:=am.ext ao;have aA:=h02.trans hE
        have au:Hid (Own w8 w0.heap.size 3 (some ⟨w6.heap.size,0,none⟩) vars vars (([x0,x1,x2,x3,x4,x5].take vars).map (Value.int .i64))):=qh (by
         have h1:UQ w8 w6.heap.size ([x0,x1,x2,x3,x4,x5].take vars):=by unfold UQ;rw[lL];exact hA8
         have h2:=h1.own (base:=w0.heap.size) (by have:=(aA.trans af).size;omega) (by unfold maxLen;rw[go];simp;omega);have h3:([x0,x1,x2,x3,x4,x5].take vars).length=vars:=by rw[go];simp;omega
         rw[h3]at h2
         exact h2)
        obtain⟨E,aZ⟩:∃ x,w6.heap.size=x:=⟨_,rfl⟩;rw[aZ]at au |-;have aW:=qh (aG.len (by omega));have aS:=fun(j:World) (f:Ext w8 j)=>qh (az.out j (.agg #[.bool sx,.slice ax nx cx,.bool false,.slice bx mx dx]) (b2.ext ((aA.trans y).trans f)) ⟨As sx ax nx cx false bx mx dx,rfl,ap.ext f⟩);clear zc aF hA7 hA8 aI a5 af a8 a7 aq S V hP hE HC am y;have c0:=o.c 0 rfl;have c1:=o.c 1 rfl;have c2:=o.c 2 rfl;have c3:=o.c 3 rfl;have c4:=o.c 4 rfl;have c5:=o.c 5 rfl;have c6:=o.c 6 rfl;have c7:=o.c 7 rfl;have c8:=o.c 8 rfl;have c9:=o.c 9 rfl
        have q0:=ah.c 0 rfl;have q1:=ah.c 1 rfl;clear o ap;have av:=fun(j:World) (f:Ext w8 j)=>qh (And.intro (f.cell c0) (And.intro (f.cell c1) (And.intro (f.cell c2) (And.intro (f.cell c3) (And.intro (f.cell c4) (And.intro (f.cell c5) (And.intro (f.cell c6) (And.intro (f.cell c7) (And.intro (f.cell c8) (And.intro (f.cell c9) (And.intro (f.cell q0) (f.cell q1))))))))))))
        refine Ad
         [hdP PB 1,hdS (some ⟨G,0,none⟩) n n,hdI k,hdP X 6,he (.agg #[.bool sx,.slice ax nx cx,.bool false,.slice bx mx dx]),hp (fun v j=>v = .string ⟨(txt tq).toArray⟩),hdS (some ⟨E,0,none⟩) vars vars,hp (fun v j=>v = .agg #[.string ⟨(txt tq).toArray⟩,.slice (some ⟨E,0,none⟩) vars vars])]
         ⟨fun _ _ _ _ h=>h,fun _ _ _ _ h=>h,trivial⟩ ⟨?o0,?o1,?o2,?o3,?o4,?o5,?o6,?o7,trivial⟩ ?fin
        case o0=>exact ofa (d:=1)
        case o1=>exact ol
        case o2 | o6=>exact omv
        case o3=>exact ofa (d:=6)
        case o4=>exact ol4
        case o5 =>
         refine Ai rfl fun ρ j f aQ b3 h => ?_;have e1:_=_:=h.2.1;obtain⟨bd,be,bf,bg,bh,bi,bj,bk,bl,bm,ba,bc⟩:=(av j f).out;refine⟨62,#[.agg #[.bool sx,.slice ax nx cx,.bool false,.slice bx mx dx]],by go_simp,((aS j f).out).mono ?_⟩;rintro e w' ⟨rfl,aY⟩;exact⟨_,rfl,aY,rfl⟩
        case o7 =>
         refine Bj rfl ?_;intro ρ j hp f h;have aQ:=hp.const;have b3:=hp.func;obtain⟨v0,e0,rfl⟩:=h.1;have e1:_=_:=h.2.1;obtain⟨bd,be,bf,bg,bh,bi,bj,bk,bl,bm,ba,bc⟩:=(av j f).out;exact⟨_,j,by go_simp,Ext.refl _,rfl⟩
        case fin =>
         intro j f;rintro _ rfl;rintro _ rfl;change wpList _ _ _ _ _ _;simp only[CB];have ag:=aG.ext f;have bq:(k:Int)<n:=by omega
         have bt:(tmL ⟨(txt tq).toArray⟩ (some ⟨E,0,none⟩) vars vars).toArray=#[.string ⟨(txt tq).toArray⟩,.slice (some ⟨E,0,none⟩) vars vars]:=rfl
         go_wp2_with(refine Xa (vs:=tmL ⟨(txt tq).toArray⟩ (some ⟨E,0,none⟩) vars vars) rfl rfl (by omega) CQ rfl rfl rfl ag N rfl (FG _ _ _ _) ?_;intro bv aP Q)
         go_roundw
         case rel =>
          have aD:Own j w0.heap.size 3 (some ⟨E,0,none⟩) vars vars (([x0,x1,x2,x3,x4,x5].take vars).map (Value.int .i64)):=au.out.ext f;refine⟨k+1,_,by go_num,by omega,(ao.trans f).grownR Q (kH hG),aP,(ah.ext f).kept Q (fun he=>U (by simpa using he)),qh fun i hi => ?_⟩;by_cases b4:i=k
          · subst b4;rw[HM.out,gqq,lP (by rw[aW.out];exact N)];exact⟨_,_,vars,vars,rfl,rfl,aD.kept Q (Or.inr (Fg aD ag (by decide)))⟩
          · rw[gqq,jx (by omega),<-gqq];obtain⟨s9,a9,n9,c9,e1,e2,e3⟩:=(aU.out i (by omega)).ext f;exact⟨s9,a9,n9,c9,e1,e2,e3.kept Q (Or.inr (Fg e3 ag (by decide)))⟩
         case measure=>simp[intOf];omega
      · have ak:k=n:=by omega
        subst ak;have q0:=hP.c 0 rfl;have q1:=hP.c 1 rfl;have a1:=M.ext hE;have b6:(AF vars (some ⟨G,0,none⟩) k k).toArray=#[.int .i64 vars,.slice (some ⟨G,0,none⟩) k k]:=rfl
        go_wp2_with(refine Aa (vs:=AF vars (some ⟨G,0,none⟩) k k) rfl rfl rfl rfl rfl Ax a1 rfl (AW _ _ _ _) ?_;intro w9 I q)
        refine fh (Az rfl Ax rfl rfl I) rfl ?_;have ai:w.heap.size≠G:=by omega
        refine⟨D,HP.out.1,Or.inl ⟨HP.out.2,W.out,_,k,k,rfl,(h02.trans hE).grownR q ab,rs,V.kept q (Or.inr (by simpa[blk]using fun h=>ai h.symm)),by simp[wrT,C],fun i hi => ?_⟩⟩;obtain⟨s9,a9,n9,c9,e1,e2,e3⟩:=HC.out i hi;exact⟨s9,a9,n9,c9,e1,e2,e3.kept q (Or.inr (Ff e3 a1 (by decide)))⟩
   · have al:0<n:=by rw[<-C,Y];simp
     obtain⟨g,rfl,H⟩:=a4 al;have z:=H t r Y;clear a4;have W:Hid (¬ okW D):=qh fun h=>by have:=h.2 t r Y;rw[P]at this;cases this
     have aJ:(0:Int)<(n:Int):=by omega
     rw[P]at z;clear H R P Y
     go_wp2_with fail
     refine(z _ (Ext.refl _)).out.mono ?_;rintro e w3 ⟨rfl,L⟩;have b0:=M.ext L.ext
     go_wp2_with(refine Aa (vs:=AF 0 none 0 0) rfl rfl rfl rfl rfl Ax b0 rfl (AW _ _ _ _) ?_;intro w9 I q)
     refine fh (Az rfl Ax rfl rfl I) rfl ?_;exact⟨D,HP.out.1,Or.inr ⟨Or.inr ⟨HP.out.2,W.out⟩,none,0,0,rfl,(h02.trans L.ext).grownR q ab,TmO.nil _ _⟩⟩
section
variable {P:Program} {w:World}
theorem Wm(c:o.guard=none)(l:o.op = .index t x i)(d:F7 P t et)
 {cs:Array Value} {k:Nat} {v:Value} (p:f.eval x = .agg cs) (hi:f.eval i = .int .i64 (k:Int)) (h6:k<6) (j:cs[k]?=some v) (e:wpList P ops Q rest (f.put o.dst v) w):wpList P ops Q (o :: rest) f w:=by
 refine gI c fun K b => ?_;obtain⟨q,a,n⟩:∃ i,P.info? et=some i/\i.size=1:=by
  have:=d.size;cases h:P.info? et with
  | none=>rw[h]at this;cases this
  | some i=>rw[h]at this;exact⟨i,rfl,by simpa using this⟩
 have m:(Instr.index t (.agg cs) (.int .i64 (k:Int))).run P w = .ok v w:=by
  have g:(0:Int)<=(k:Int)/\(k:Int)<((6:Nat):Int):=by omega
  simp only[Instr.index,asIntOf,fC,fQ,fe,fT d.arr];rw[fG g];simp[sizeOf,typeInfo,a,n,AR w d cs k v j]
 unfold Oper.wp execOp;simp only[l,p,hi,fC,m,fe,fQ,Oper.upon];exact b _ _ e
end
open Classical in
noncomputable def rdP (vars:Int) (ts:List Tx):Option (List Pl.Tm):=if ts.length<=4096/\∀ t r,ts=t :: r->Ci t.2=true then rdWF vars ts else none
theorem Rg{ts:List Tx}(Y:Bk w)(h:CP w a n c ts)(S:∀ t∈ts,t.1.length<=570) :
 Calls prog 31 #[.agg #[.int .i64 vars,.slice a n c]] w (Xf w (rdP vars ts)):=by
 have g:=h.len;have d:=fun(J:World) (O:Ext w J) (Z:n<=4096)=>qh (Nq (vars:=vars) (Y.ext O) (h.ext O) S Z);have A:¬ n<=4096->rdP vars ts=none:=fun h=>by unfold rdP;exact fl (fun h'=>h (by omega))
 obtain⟨V,P,_,F⟩:=h;have a0:=P.le
 go_enter func31,ntmps31
 go_upto_region 1 with(fail)
 refine Bv ?_;intro w0 x v H;have p0:=v.c 0 rfl;have U:=v.c 1 rfl;clear v H S;by_cases Q:4096<n
 · have m:=qh (A (by omega));go_wp2
   go_ret2
   rw[m.out];exact⟨none,0,0,rfl,x,CV.nil _⟩
 · have d:=d w0 x (by omega);clear A
   go_wp2_with fail
   refine d.out.mono ?_;rintro e I ⟨L,T,N,rfl,z,k⟩;have U:=z.cell U;have i:=x.trans z;cases b:rdWF vars ts with
   | none =>
    have m:Hid (rdP vars ts=none):=qh (by unfold rdP;rw[b];split <;> rfl);rw[b]at k;clear d b;go_wp2
    go_ret2
    rw[m.out];exact⟨none,0,0,rfl,i,CV.nil _⟩
   | some l =>
    rw[b]at k;simp only[fW,kJ]at k |-;rcases fF n with h0|h0
    · have m:Hid (rdP vars ts=some l):=qh (by
       unfold rdP
       rw[b,fG ⟨by omega,fun t r e=>by rw[e]at g;simp at g;omega⟩])
      have E:¬ ((0:Int)<(n:Int)):=by omega
      clear d b;go_wp2
      go_ret2
      rw[m.out];exact⟨L,T,N,rfl,i,k⟩
    · have E:(0:Int)<(n:Int):=by omega
      obtain⟨M,B,rfl,C⟩:=(P.ext i).rd h0;obtain⟨s,W,nx,X,q,_,G⟩:=F 0 h0;have o:=C 0 h0 1 (by omega);rw[q]at o;have R:I.cell? ⟨M,B+1,none⟩=some (.slice W nx X):=o;have f:=C 0 h0 0 (by omega);rw[q]at f;have D:I.cell? ⟨M,B,none⟩=some (.string s):=by simpa using f
      have p:=fun(J:World) (F:Ext I J)=>qh (Ex ((G.ext i).ext F));have K:Hid (∀ t r,ts=t :: r->t.2=(ts.getD 0 tm0).2):=qh (fun t r e=>by rw[e];rfl);generalize (ts.getD 0 tm0).2=xs at *
      cases j:Ci xs with
      | true =>
       have m:Hid (rdP vars ts=some l):=qh (by
        unfold rdP
        rw[b,fG ⟨by omega,fun t r e=>by rw[K.out t r e];exact j⟩])
       rw[j]at p;clear d b j C o f
       go_wp2_with fail
       refine(p _ (Ext.refl _)).out.mono ?_;rintro e w2 ⟨rfl,rfl⟩;go_wp2
       go_ret2
       rw[m.out];exact⟨L,T,N,rfl,i,k⟩
      | false =>
       have m:Hid (rdP vars ts=none):=qh (by
        unfold rdP;rw[fl];rintro⟨_,h2⟩;cases y:ts with
        | nil=>rw[y]at g;simp at g;omega
        | cons t r =>
         have h3:=h2 t r y;rw[K.out t r y,j]at h3
         cases h3)
       rw[j]at p;clear d b j C o f
       go_wp2_with fail
       refine(p _ (Ext.refl _)).out.mono ?_;rintro e w2 ⟨rfl,rfl⟩;go_wp2
       go_ret2
       rw[m.out];exact⟨none,0,0,rfl,i,CV.nil _⟩
theorem Gs{ts:List Tx}(l:Bk w)(h:CP w a n c ts)(m:∀ t∈ts,t.1.length<=570) :
 Calls prog 12 #[.agg #[.int .i64 vars,.slice a n c]] w fun e p=>e = .returned (.bool (rdP vars ts).isSome)/\Ext w p:=by
 have f:=fun(q:World) (j:Ext w q)=>qh (Rg (vars:=vars) (l.ext j) (h.ext j) m);obtain⟨o,k⟩:∃ o,rdP vars ts=o:=⟨_,rfl⟩;rw[k]at f |-;clear k
 go_enter func12,ntmps12
 go_upto_region 1 with(fail)
 refine Bv ?_;intro z d b i;have x:=b.c 0 rfl;have y:=b.c 1 rfl;clear b i
 go_wp2_with fail
 refine(f _ d).out.mono ?_;rintro e A ⟨r,v,s,rfl,g,_⟩;go_wp2;go_ret;exact⟨rfl,d.trans g⟩
structure Xh where
 p:Nat
 qa:Option Nat
 qb:Option Nat
 z:Int
def Xh.has(f:Xh)(b:Nat):Prop:=b=f.p\/f.qa=some b\/f.qb=some b
theorem Rh(a d:Nat):a∣a*(d/Nat.gcd a d):=Nat.dvd_mul_right _ _
theorem Ri(a d:Nat):d∣a*(d/Nat.gcd a d):=by
 have h1:a*(d/Nat.gcd a d)=a/Nat.gcd a d*d:=by
  rw[<-lG _ (jb a d),fJ a d,lG _ (jK a d),fJ]
 rw[h1];exact jL _ _
theorem Nv:∀ (l:List Rat) (a:Nat),a∣l.foldl (fun a q=>a*(q.den/Nat.gcd a q.den)) a/\∀ q∈l,q.den∣l.foldl (fun a q=>a*(q.den/Nat.gcd a q.den)) a
 | [],a=>⟨Nat.dvd_refl _,by simp⟩
 | q :: r,a=>by
  have ih:=Nv r (a*(q.den/Nat.gcd a q.den));refine⟨jz (Rh a q.den) ih.1,fun p hp => ?_⟩;rcases fV.1 hp with rfl|hp
  · exact jz (Ri a p.den) ih.1
  · exact ih.2 p hp
theorem Nw{l:List Rat}{q:Rat}(h:q∈l):q.den∣Id l:=(Nv l 1).2 q h
structure Qg(p:List Pl.Tm):Prop where
 atE:∀ e,Pl.coef p e≠0->Fh (Pl.coef p e)/\e.length=6/\∀ x∈e,0<=x/\x<=1099511627776
 len:p.length<=1000000
theorem Nx{out p:List Pl.Tm}(b:Pl.Nrm out)(a:∀ e,Pl.coef out e=Pl.coef p e){t:Pl.Tm}(c:t∈out):Pl.coef p t.1=t.2:=by rw[<-a];exact Pl.coef_mem b.nodup c
theorem Qg.out{out p:List Pl.Tm}(h:Qg p)(c:Pl.Nrm out)(d:∀ e,Pl.coef out e=Pl.coef p e):O8 out/\(∀ t∈out,Fh t.2)/\out.length<=1000000:=by
 have b:∀ t∈out,Pl.coef p t.1≠0:=fun t a=>by rw[Nx c d a];exact c.nz t a
 refine⟨fun t a=>(h.atE t.1 (b t a)).2,fun t a => ?_,?_⟩
 · have:=(h.atE t.1 (b t a)).1;rw[Nx c d a]at this;exact this
 · refine ft ?_ h.len
   have h1:=Pl.nodup_le (out.map (·.1)) (p.map (·.1)) c.nodup (fun e he=>by
    obtain⟨t,a,rfl⟩:=fy.1 he;obtain⟨s,f,e⟩:=Pl.coef_present (b t a);rw[<-e]
    exact gJ f)
   simpa using h1
theorem Ny(h:AE w b e k a n c rows)(f:Arr w p t cs)(o:t≠e):blk a≠some p:=by
 rcases h.2.2 with⟨d,_⟩|⟨g,j,l,d,_,m,_⟩
 · simp only[fd]at d;rw[d.1];simp[blk]
 · simp only[fd]at d;rw[d.1];intro he;have i:g=p:=by simpa[blk]using he
   subst i;unfold Arr at f;rw[m]at f;simp only[fc,jm]at f;exact o f.2.1.symm
theorem TmO.keptA{ts:List Tx}(h:TmO w base a n c ts)(e:Arr w R 24 cs)(f:w.grownBy w' (some R)):TmO w' base a n c ts:=by
 obtain⟨b,h1,h2,h3⟩:=h;refine⟨b,h1.kept f (Or.inr (Ny h1 e (by decide))),h2,fun i m => ?_⟩;obtain⟨s,g,o,j,k,l,d⟩:=h3 i m;exact⟨s,g,o,j,k,l,d.kept f (Or.inr (Ff d e (by decide)))⟩
theorem J6(t:Pl.Tm)(h6:t.1.length=6):∀ (l:List Pl.Tm),(∀ s∈l,s.1.length=6)->Pl.desc l->∃ a,a.Perm (t :: l)/\Pl.desc a
 | [],_,_=>⟨[t],kT _,lK _ _⟩
 | s :: r,hl,hd=>by
  have hd2:=j3.1 hd;by_cases h:0<=Pl.ordE t.1 s.1
  · refine⟨t :: s :: r,kT _,j3.2 ⟨fun u hu => ?_,hd⟩⟩;rcases fV.1 hu with rfl|hu
    · exact h
    · have h1:=hd2.1 u hu;by_cases h2:Pl.ordE t.1 s.1=0
      · rw[Pl.ordE_eq (by rw[h6,hl s (by simp)]) h2];exact h1
      · by_cases h3:Pl.ordE s.1 u.1=0
        · rw[<-Pl.ordE_eq (by rw[hl s (by simp),hl u (by simp[hu])]) h3];exact h
        · exact jY (Pl.ordE_trans (b:=s.1) (by omega) (by omega))
  · obtain⟨a,h1,h2⟩:=J6 t h6 r (fun u hu=>hl u (by simp[hu])) hd2.2;refine⟨s :: a,(List.Perm.cons s h1).trans (List.Perm.swap t s r),j3.2 ⟨fun u hu => ?_,h2⟩⟩;rcases fV.1 (h1.mem_iff.1 hu)with rfl|hu
    · have:=Pl.ordE_anti s.1 u.1;omega
    · exact hd2.1 u hu
theorem Io:∀ (l:List Pl.Tm),(∀ s∈l,s.1.length=6)->∃ b,b.Perm l/\Pl.desc b
 | [],_=>⟨[],kT _,List.Pairwise.nil⟩
 | t :: r,h=>by
  obtain⟨l1,h1,h2⟩:=Io r (fun s a=>h s (by simp[a]));obtain⟨c,h3,h4⟩:=J6 t (h t (by simp)) l1 (fun s a=>h s (by simp[h1.mem_iff.1 a])) h2;exact⟨c,h3.trans (List.Perm.cons t h1),h4⟩
noncomputable def cnP (p:List Pl.Tm):List Pl.Tm:=Classical.epsilon (fun l=>Pl.Canon 6 l/\∀ e,Pl.coef l e=Pl.coef p e)
theorem Wo{p l:List Pl.Tm}(h:Pl.Canon 6 l)(a:∀ e,Pl.coef l e=Pl.coef p e):cnP p=l:=by
 have h1:Pl.Canon 6 (cnP p)/\∀ e,Pl.coef (cnP p) e=Pl.coef p e:=j6 (p:=fun l=>Pl.Canon 6 l/\∀ e,Pl.coef l e=Pl.coef p e) ⟨l,h,a⟩;exact Pl.canon_ext h1.1 h (fun e=>by rw[h1.2,a])
theorem EA{p out l:List Pl.Tm}(d:Pl.Nrm out)(b:∀ e,Pl.coef out e=Pl.coef p e)(hp:l.Perm out)(c:Pl.desc l):cnP p=l:=by
 have a:=d.perm hp.symm;exact Wo (Pl.canon_of_sorted a.len a.nz c a.nodup) (fun e=>by rw[Pl.coef_perm hp,b])
open Classical in
noncomputable def resQ (vars:Int) (p:List Pl.Tm):Int×List Tx×Int:=if okW (cnP p)then(vars,wrT vars.toNat (cnP p),0)else(0,[],2)
def Lv(w:World)(r:Int×List Tx×Int)(e:Ending)(w':World):Prop:=Mo w r.1 r.2.1 r.2.2 e w'
theorem Qf.q{vars:Nat}{out p:List Pl.Tm}{e:Ending}(h:Qf w0 vars out e w')(b:Pl.Nrm out)(c:∀ e,Pl.coef out e=Pl.coef p e):Lv w0 (resQ vars p) e w':=by
 obtain⟨l,h1,h2⟩:=h;unfold resQ Lv;rcases h2 with⟨d,a,g⟩|⟨a,g⟩
 · rw[EA b c h1 d,fG a];exact g
 · have f:¬ okW (cnP p):=by
    rcases a with a|⟨d,a⟩
    · obtain⟨i,h3,h4⟩:=Io out b.len;rw[EA b c h3 h4];intro h5;have:=h5.1;rw[h3.length_eq]at this;omega
    · rw[EA b c h1 d];exact a
   rw[fl f];exact g
theorem Nz{b:List Tx}{a:List Pl.Tm}(h:rdP va b=some a):0<=va/\va<=6:=by
 unfold rdP at h;split at h
 · unfold rdWF at h;split at h
   · rename_i h1;exact⟨h1.1,h1.2.1⟩
   · cases h
 · cases h
theorem NA{e b i:World}{r:Int×List Tx×Int}(f:Ext w e)(d:Ext e b)(j:TmO b e.heap.size a n c r.2.1)(k:Arr b R 24 cs)(g:b.grownBy i (some R))(l:w.heap.size<=R):Lv w r (.returned (.tuple #[Qe r.1 a n c,.int .i64 r.2.2])) i :=
 ⟨a,n,c,rfl,(f.trans d).grownR g l,(j.mono f.size).keptA k g⟩
theorem Rj{ls:List (List Pl.Tm)}(a:k<ls.length):(ls.take (k+1)).flatten=(ls.take k).flatten ++ ls.getD k []:=by
 rw[mM,List.flatten_append];simp[a]
theorem Pa{ls:List (List Pl.Tm)}(a:k<ls.length):(ls.take k).flatten ++ (ls.getD k [] ++ (ls.drop (k+1)).flatten)=ls.flatten:=by
 have h1:ls.take k ++ (ls.getD k [] :: ls.drop (k+1))=ls:=by
  have:ls.getD k [] :: ls.drop (k+1)=ls.drop k:=by
   rw[gg a,gqq,eZ a];rfl
  rw[this,iz]
 conv=>rhs;rw[<-h1]
 simp
def Xi(w0:World)(r:Nat)(p:List Pl.Tm)(wr:World):Prop:=∃ l,Ext w0 wr/\Ee wr r l/\Hid (∀ e,Pl.coef l e=Pl.coef p e)/\l.length<=p.length
def XV(w0:World)(r it g c:Nat)(l:List Pl.Tm)(v:Value)(wr:World):Prop :=
 ∃ seen n rows,v = .slice (some ⟨g,0,none⟩) n c/\Ext w0 wr/\Ee wr r l/\AC wr it r l.length seen/\seen.Nodup/\(∀ i∈seen,i<l.length)/\E8 wr w0.heap.size 135 10 g n c rows /\
  (Pl.picked l seen).length=n/\Hid (∀ i,i<n->Cn wr (rows.getD i []) ((Pl.picked l seen).getD i ([],0)))
theorem Mp{ls:List (List Pl.Tm)}(hT:Bk w)(h:Nr w a n c ls)(hn:n<=1000)(hN:ls.flatten.length<=1000000)(hB:∀ p s,p ++ s=ls.flatten->∀ e,Pl.RB 2400 (Pl.coef p e))(bH:∀ t∈ls.flatten,Pl.RB 2400 t.2) :
 Calls prog 69 #[.slice a n c] w (fun e w'=>∃ bd,Xg w bd e w'/\Pl.Nrm bd/\∀ e,Pl.coef bd e=Pl.coef ls.flatten e):=by
 obtain⟨cs,hS,hl,hq⟩:=h;have HQ:=qh hq;have HB:=qh hB;have cy:=qh bH;have HL:=qh hl;have HN:=qh hN;clear hq hB bH hl hN
 go_enter func69,ntmps69
 go_upto_region 2 with(refine Fx rfl rfl ?_;intro w1 bP bJ cv)
 go_wp2
 go_loopw[14] (fun iv wr=>∃ k:Nat,iv = .int .i64 k/\k<=n/\Xi w w.heap.size (ls.take k).flatten wr) (fun iv _=>n-(intOf iv).toNat)
 case atStart=>exact⟨0,rfl,fu _,[],bJ,Ee.new bP,qh (fun e=>rfl),fu _⟩
 case round =>
  clear bP bJ cv;obtain⟨k,rfl,hk,a6⟩:=hrel;by_cases ao:k<n
  · obtain⟨l0,aP,bk,aF,aX⟩:=a6;obtain⟨b1,o1,rfl,ce⟩:=(hS.ext aP).rd (by omega);obtain⟨a2,n2,c2,e2,bL⟩:=HQ.out k ao;have g1:=ce k ao;rw[e2]at g1;have bs:=qh (Pa (ls:=ls) (k:=k) (by rw[HL.out];exact ao));have bF:=qh (Rj (ls:=ls) (k:=k) (by rw[HL.out];exact ao));have cB:=qh e2;clear ce e2;obtain⟨L,aJ⟩:∃ L,Hid (ls.getD k []=L):=⟨_,qh rfl⟩;obtain⟨pre,aM⟩:∃ p,Hid ((ls.take k).flatten=p):=⟨_,qh rfl⟩;rw[aM.out]at aF aX;have br:Hid (pre ++ (L ++ (ls.drop (k+1)).flatten)=ls.flatten):=qh (by rw[<-aM.out,<-aJ.out];exact bs.out)
    have cH:Hid ((ls.take (k+1)).flatten=pre ++ L):=qh (by rw[<-aM.out,<-aJ.out];exact bF.out);rw[aJ.out]at bL;obtain⟨O,hR,bW,bX⟩:=bL;have cF:=qh bX;have aN:=qh bW;have d8:=hR.le;clear bX bW bs bF cB;obtain⟨wo,rfl⟩:∃ x:World,x=wr:=⟨_,rfl⟩;go_wp2
    go_loopw[20] (fun iv wr=>∃ j:Nat,iv = .int .i64 j/\j<=n2/\Xi w w.heap.size (pre ++ L.take j) wr) (fun iv _=>n2-(intOf iv).toNat)
    case atStart=>exact⟨0,rfl,fu _,l0,aP,bk,by simpa using aF,by simpa using aX⟩
    case round =>
     clear bk aF aX aP g1;obtain⟨j,rfl,hj,a6⟩:=hrel;by_cases an:j<n2
     · obtain⟨l,hE,a0,HC,ck⟩:=a6;have aV:=hR.ext hE;obtain⟨b,da,rfl,_⟩:=aV.rd (by omega);obtain⟨sx,S,Z,U,T,W,V,aC,h6,b2⟩:=cF.out j an
       have bz:Hid (L.take (j+1)=L.take j ++ [L.getD j ([],0)]):=qh (by
        rw[mM,gqq,eZ (by rw[aN.out];exact an)];rfl)
       have cI:Hid (L.getD j ([],0)∈ls.flatten):=qh (by
        rw[<-br.out];refine List.mem_append_right _ (List.mem_append_left _ ?_);rw[gqq,eZ (by rw[aN.out];exact an)]
        exact fE _)
       have bD:Hid (∀ e,Pl.RB 2400 (Pl.coef (pre ++ L.take j) e)):=qh (HB.out _ (L.drop j ++ (ls.drop (k+1)).flatten) (by rw[<-br.out,ge,<-ge (L.take j),iz]));generalize L.getD j ([],0)=t at *
       obtain⟨te,tq⟩:=t;obtain⟨D,E,F,G,H,I,ak⟩:=FE h6;simp only at ak aC b2;subst ak;have hY:=Arr.new wr 135 (Ar [0,0,0,0,0,0] false none 0 0 none 0 0)
       go_upto_region 8 with(first
        | (refine Dz rfl rfl AX rfl aV an ?_;rw[aC])
        | (refine Aa (vs:=Ar [D,E,F,G,H,I] sx S Z U T W V) rfl rfl rfl rfl rfl AX hY rfl BO ?_;intro w3 Q cf))
       have a4:Ext wr w3:=((Ext.refl wr).alloc _).grownR cf (lrf _);have ah:=a0.ext a4;have a5:=hE.trans a4;have bo:=b2.ext a5;have d4:w.heap.size≠wr.heap.size:=by have:=a0.lt;omega
       clear hY cf a0 hE a4 aC h6 aV b2;generalize wr.heap.size=X at *
       have c0:=Q.c 0 rfl;have c1:=Q.c 1 rfl;have c2:=Q.c 2 rfl;have c3:=Q.c 3 rfl;have c4:=Q.c 4 rfl;have c5:=Q.c 5 rfl;have c6:=Q.c 6 rfl;have c7:=Q.c 7 rfl;have c8:=Q.c 8 rfl;have c9:=Q.c 9 rfl;obtain⟨m,a1,C⟩:=ah;have ae:=a1.nodup;have af:=qh C;obtain⟨LV,bB⟩:∃ v,Hid (Dr SU m [D,E,F,G,H,I]=v):=⟨_,qh rfl⟩;have bA:Hid ((l.map (·.1)).Nodup):=qh (by rw[<-C.keys];exact ae);have cC:Hid (BI w3 LV (Pl.getK 0 l [D,E,F,G,H,I])):=qh (by rw[<-bB.out,Q9];exact C.get (SV w3) _)
       have aH:Hid (Pl.RB 2400 (Pl.getK 0 l [D,E,F,G,H,I])):=qh (by rw[Pl.getK_coef l _ bA.out,HC.out];exact bD.out _);have aO:Hid (Pl.RB 2400 tq):=qh (cy.out _ cI.out);have cu:=fun(wx:World) (hq:Ext w3 wx)=>qh (QV ((hT.ext a5).ext hq) (cC.out.ext hq) (v' := .agg #[.bool sx,.slice S Z U,.bool false,.slice T W V]) (q:=tq) ⟨As sx S Z U false T W V,rfl,bo.ext hq⟩ aH.out.1 aH.out.2 aO.out.1 aO.out.2)
       have cG:Hid (∀ e,Pl.coef (Pl.putK l [D,E,F,G,H,I] (Pl.getK 0 l [D,E,F,G,H,I]+tq)) e=Pl.coef (pre ++ L.take (j+1)) e):=qh (fun e=>by
        rw[Pl.coef_step bA.out,HC.out,bz.out,<-ge,Pl.coef_app _ [_]])
       have cE:=qh (Pl.putK_length [D,E,F,G,H,I] (Pl.getK 0 l [D,E,F,G,H,I]+tq) l);have cA:Hid ((pre ++ L.take (j+1)).length=(pre ++ L.take j).length+1):=qh (by rw[bz.out];simp;omega);clear C ae bD aH aO bo;generalize Pl.getK 0 l [D,E,F,G,H,I]=gq at *
       have ai:=fun(wx:World) (J:Ext w3 wx)=>qh (And.intro (J.cell c0) (And.intro (J.cell c1) (And.intro (J.cell c2) (And.intro (J.cell c3) (And.intro (J.cell c4) (And.intro (J.cell c5) (And.intro (J.cell c6) (And.intro (J.cell c7) (And.intro (J.cell c8) (J.cell c9))))))))))
       refine Ad
        [he (.map (some w.heap.size)),hdP X 0,he (.agg #[.int .i64 D,.int .i64 E,.int .i64 F,.int .i64 G,.int .i64 H,.int .i64 I]),he (.map (some w.heap.size)),hdP X 0,he (.agg #[.int .i64 D,.int .i64 E,.int .i64 F,.int .i64 G,.int .i64 H,.int .i64 I]),he LV,hdP X 6,he (.agg #[.bool sx,.slice S Z U,.bool false,.slice T W V]),hp (fun v wx=>NR (gq+tq) v wx)]
        ⟨NR.x _,trivial⟩ ⟨?o0,?o1,?o2,?o3,?o4,?o5,?o6,?o7,?o8,?o9,trivial⟩ ?fin
       case o0 | o3=>exact omv
       case o1 | o4=>exact ofa (d:=0)
       case o7=>exact ofa (d:=6)
       case o8=>exact ol4
       case o2 =>
        refine BB rfl fun ρ wx J aB h => ?_;have e0:_=_:=h.1;obtain⟨b3,b4,b5,b6,b7,b8,b9,ba,bb,bc⟩:=(ai wx J).out;go_simp
       case o5 =>
        refine BB rfl fun ρ wx J aB h => ?_;have e0:_=_:=h.1;obtain⟨b3,b4,b5,b6,b7,b8,b9,ba,bb,bc⟩:=(ai wx J).out;go_simp
       case o6 =>
        refine BB rfl fun ρ wx J aB h => ?_;have e0:_=_:=h.1;have e1:_=_:=h.2.1;obtain⟨b3,b4,b5,b6,b7,b8,b9,ba,bb,bc⟩:=(ai wx J).out;rw[<-bB.out];exact Ra rfl GX Lt O6 e0 e1 (a1.ext J) rfl
       case o9 =>
        refine Ai rfl fun ρ wx J aB d5 h => ?_;have e1:_=_:=h.2.1;have e2:_=_:=h.2.2.1;obtain⟨b3,b4,b5,b6,b7,b8,b9,ba,bb,bc⟩:=(ai wx J).out;refine⟨61,#[LV,.agg #[.bool sx,.slice S Z U,.bool false,.slice T W V]],by go_simp,((cu wx J).out).mono ?_⟩;rintro e w' ⟨cs,rfl,cJ,cU⟩;exact⟨_,rfl,cJ,cs,rfl,cU⟩
       case fin =>
        intro wx J;rintro _ ⟨bG,rfl,cV⟩;change wpList _ _ _ _ _ _;simp only[CB];have bS:=a1.ext J;have d3:=a5.size
        go_wp2_with(refine Iy rfl (Or.inl rfl) GX Lt (k:=[D,E,F,G,H,I]) (v := .agg bG.toArray) rfl rfl rfl bS rfl ?_;intro w5 bQ a8)
        go_roundw
        case rel =>
         refine⟨j+1,by go_num,by omega,_,(a5.trans J).grownR a8 (lrf _),⟨_,by rw[ST]at bQ;exact bQ,?_⟩,cG,by have h1:=cE.out;have h2:=cA.out;omega⟩;have hU:=bS.noU;exact((af.out.mono fun _ _ h=>h.ext J).put _ ⟨bG,rfl,cV⟩).mono fun _ _ h=>h.keptU hU a8
        case measure=>simp[intOf];omega
     · have cP:j=n2:=by omega
       subst cP;rw[f9 (by rw[aN.out];exact lrf _),<-cH.out]at a6;go_wp2;go_roundw
       case rel=>exact⟨k+1,by go_num,by omega,a6⟩
       case measure=>simp[intOf];omega
  · have cQ:k=n:=by omega
    subst cQ;rw[f9 (by rw[HL.out];exact lrf _)]at a6;obtain⟨l,hE,a0,HC,ck⟩:=a6;have h6:=a0.six;have ae:=a0.nodup;have HP:=qh (And.intro h6 ae);clear h6 ae;obtain⟨m,a1,C⟩:=a0;have cm:=C.len;have aY:m.length<=1000000:=by have:=HN.out;omega
    have aK:=qh cm;have cS:=Rc (P:=prog) (ty:=3) GX a1;have af:=qh C;clear cm C ck
    go_upto_region 12 with(refine Qc rfl rfl (by kernel_rfl) Df BV rfl rfl (by omega) (by unfold maxLen;omega) ?_;intro w2 aT aQ)
    have z:=a1.ext aQ
    go_upto_region 13 with(refine Ok rfl rfl GX rfl z ?_;intro w3 bN a4 cw)
    have ag:=aQ.trans a4;have a5:=hE.trans ag;have ah:Ee w3 w.heap.size l:=⟨m,a1.ext ag,af.out.mono fun _ _ h=>h.ext ag⟩;have bj:AC w3 w2.heap.size w.heap.size l.length []:=by rw[<-aK.out];exact bN
    have d6:w.heap.size<wr.heap.size:=a1.lt;have aU:=aT.ext a4;have d7:wr.heap.size<w2.heap.size:=aT.lt.2;have az:E8 w3 w.heap.size 135 10 wr.heap.size 0 m.length []:=⟨aU.1.mono (by omega),aU.2⟩;clear bN z aQ a4 aT ag cS hE cw a1 aU;generalize wr.heap.size=g at *
    generalize w2.heap.size=it at *
    obtain⟨M,hM⟩:∃ M,m.length=M:=⟨_,rfl⟩;have bR:l.length=M:=by rw[<-hM];exact aK.out.symm
    have cD:=qh bR;rw[hM]at az aY |-;have cK:=aY;clear aY;clear hM bR af aK
    go_frame
    go_loopw[8] (fun v wr=>XV w w.heap.size it g M l v wr) (fun _ wr=>l.length-Qd wr it)
    case atStart=>exact⟨[],0,[],rfl,a5,ah,bj,by simp,by simp,az,rfl,qh (fun i hi=>absurd hi (by omega))⟩
    case round =>
     clear a5 ah bj az;obtain⟨f,N,O,rfl,hE,a0,hI,aq,ap,hO,cn,aG⟩:=hrel;have d0:N<=f.length/\f.length<=l.length:=by
      have h1:=Pl.picked_len l f;have h2:=Pl.seen_len aq ap;omega
     have R:=qh cn;clear cn;obtain⟨m2,z,au⟩:=a0;have aa:=au.len;rw[<-aa]at hI;have b0:=Rb z hI;by_cases aA:∀ i,i<m2.length->i∈f
     · have be:=Pl.picked_perm aq ap (fun i hi=>aA i (by rw[aa];exact hi));have bC:=qh be;clear be aa
       go_wp2_with(refine JJ rfl rfl rfl z hI (fun _ => ?_) (fun i _ _ _ h1 h2 _ _ _=>absurd (aA i h1) h2))
       go_ret;refine⟨Pl.picked l f,⟨_,N,M,rfl,hE,O,hO.1,fun g' cM => ?_,R.out,aG.out⟩,(Pl.Nrm.filter HP.out.1 HP.out.2).perm bC.out.symm,fun e => ?_⟩
       · have:g=g':=by simpa[blk]using cM
         subst this;exact hO.2
       · rw[Pl.coef_perm bC.out,Pl.coef_nz,HC.out]
     · have bZ:Qd wr it=f.length:=J5 hI;have cX:=hE.size;have bV:=J4 hO.1 hI;have d2:=Fe hO.1 z;have ar:=qh au;have bh:=qh aa;have cY:=hI.lt;have al:=hI.noU;clear au aa
       go_upto_region 14 with(refine JJ rfl rfl rfl z hI (fun h=>absurd h aA) ?_;intro i k v w4 cN ch aZ aS a7)
       obtain⟨q,cl,bY⟩:=ar.out.nth aZ;have aI:Hid (l.getD i ([],0)=(k,q)):=qh (by rw[gqq,cl];rfl);have cj:k.length=6:=z.six _ (gS aZ);have bl:Ee w4 w.heap.size l:=Ee.keptU ⟨m2,z,ar.out⟩ al a7 b0;have bn:=z.kept a7 (by simpa using b0);have bT:=hO.kept a7 (by simpa using bV);have bf:Hid (∀ i,i<N->Cn w4 (O.getD i []) ((Pl.picked l f).getD i ([],0))):=qh (fun i hi=>(aG.out i hi).keptU al a7);have ct:=bY.keptU al a7;have aR:Ext w w4:=hE.grownR a7 (by omega)
       have A:Hid ((f ++ [i]).Nodup/\(∀ j∈f ++ [i],j<l.length)/\f.length<l.length):=qh (by
        have cg:i<l.length:=by rw[<-bh.out];exact cN
        refine⟨iq.2 ⟨aq,by simp,fun x hx y hy=>by simp only[fi]at hy;subst hy;rintro rfl;exact ch hx⟩,fun j hj => ?_,?_⟩
        · rcases fL.1 hj with hj|hj
          · exact ap j hj
          · simp only[fi]at hj;subst hj;exact cg
        · have:=Pl.seen_len (n:=l.length) (gG.2 ⟨ch,aq⟩) (fun x hx=>by
           rcases fV.1 hx with rfl|hx
           · exact cg
           · exact ap x hx)
          simp at this
          omega)
       obtain⟨D,E,F,G,H,I,ak⟩:=FE cj;subst ak;obtain⟨_,rfl,sx,S,Z,U,T,W,V,rfl,bE,co,cp⟩:=ct;have bt:Hid (AC w4 it w.heap.size l.length (f ++ [i])):=qh (by rw[<-bh.out];exact aS);have d9:=aR.size;clear bY aG hE z hO hI a7 al cj cl cX bV b0 ar;have ca:=KQ w4 (ze.map (Value.int .i64)) (As false none 0 0 false none 0 0) 133 125;have cb:=KR w4 (ze.map (Value.int .i64)) (As false none 0 0 false none 0 0) 133 125
       have bM:=XL w4 (.cells (ze.map (Value.int .i64)).toArray 133) (.cells (As false none 0 0 false none 0 0).toArray 125)
       go_upto_region 15 with(first
        | (refine Ol rfl rfl rfl bn aS aZ ?_)
        | (refine Aa (vs:=[D,E,F,G,H,I].map (Value.int .i64)) rfl rfl rfl rfl rfl SR ca rfl (A4 _) ?_;intro w5 bI a8;have cc:=cb.kept a8 (by simp);clear ca)
        | (refine Aa (vs:=As sx S Z U false T W V) rfl rfl rfl rfl rfl Ac cc rfl (Aq _ _ _ _ _ _ _ _) ?_;intro w6 ac aW))
       have B:Ext w4 w6:=(bM.grownR a8 (lrf _)).grownR aW (by omega);have K:=bI.kept aW (by simp);have bK:=aR.trans B;have bm:=bl.ext B;have bu:Hid (AC w6 it w.heap.size l.length (f ++ [i])):=qh (bt.out.ext B);have bU:=bT.ext B;have bg:Hid (∀ i,i<N->Cn w6 (O.getD i []) ((Pl.picked l f).getD i ([],0))):=qh (fun i hi=>(bf.out i hi).ext B);have aD:=co.ext B;have aE:=cp.ext B;clear bI a8 aW bM cb cc B bl bt bT bf co cp aR bn aS;generalize w4.heap.size=Y at *
       have y0:w6.cell? ⟨Y,0,none⟩=some (.int .i64 D):=K.cell (i:=0) (by simp);have y1:w6.cell? ⟨Y,1,none⟩=some (.int .i64 E):=K.cell (i:=1) (by simp);have y2:w6.cell? ⟨Y,2,none⟩=some (.int .i64 F):=K.cell (i:=2) (by simp);have y3:w6.cell? ⟨Y,3,none⟩=some (.int .i64 G):=K.cell (i:=3) (by simp);have y4:w6.cell? ⟨Y,4,none⟩=some (.int .i64 H):=K.cell (i:=4) (by simp);have y5:w6.cell? ⟨Y,5,none⟩=some (.int .i64 I):=K.cell (i:=5) (by simp);have z0:=ac.c 0 rfl;have z1:=ac.c 1 rfl;have z2:=ac.c 2 rfl;have z3:=ac.c 3 rfl
       have ci:=qh (GJ (w:=w6) (v := .agg #[.bool sx,.slice S Z U,.bool false,.slice T W V]) (q:=q) ⟨As sx S Z U false T W V,rfl,sx,S,Z,U,T,W,V,rfl,bE,aD,aE⟩ rfl);clear K ac
       go_wp2_with fail
       refine ci.out.mono ?_;rintro e w7 ⟨rfl,o⟩;have aw:=bK.trans o;have ay:=bm.ext o;have aj:Hid (AC w7 it w.heap.size l.length (f ++ [i])):=qh (bu.out.ext o);have am:=bU.ext o;have av:Hid (∀ i,i<N->Cn w7 (O.getD i []) ((Pl.picked l f).getD i ([],0))):=qh (fun i hi=>(bg.out i hi).ext o);have bp:=aD.ext o;have bq:=aE.ext o;have y0:=o.cell y0;have y1:=o.cell y1;have y2:=o.cell y2;have y3:=o.cell y3;have y4:=o.cell y4;have y5:=o.cell y5;have z0:=o.cell z0;have z1:=o.cell z1;have z2:=o.cell z2;have z3:=o.cell z3
       clear ci bK bm bu bU bg aD aE o;by_cases a9:q=0
       · rw[gn a9];have ab:Hid (Pl.picked l (f ++ [i])=Pl.picked l f):=qh (by rw[Pl.picked_snoc,fG (by rw[aI.out];exact a9)]);clear a9;go_wp2;go_roundw
         case rel=>exact⟨f ++ [i],N,O,rfl,aw,ay,aj.out,A.out.1,A.out.2.1,am,by rw[ab.out];exact R.out,by rw[ab.out];exact av⟩
         case measure =>
          have e1:=J5 aj.out;have e2:=A.out.2.2;rw[bZ,e1];simp;omega
       · rw[fK a9];have ab:Hid (Pl.picked l (f ++ [i])=Pl.picked l f ++ [([D,E,F,G,H,I],q)]):=qh (by rw[Pl.picked_snoc,fl (by rw[aI.out];exact a9),aI.out]);have d1:N<M:=by have h1:=A.out.2.2;have h2:=cD.out;omega
         have cZ:M<=1000000:=cK;clear a9;have a3:Ext w7 (w7.alloc (.cells (Ar [D,E,F,G,H,I] sx S Z U T W V).toArray 135)):=(Ext.refl w7).alloc _;have hA8:=am.ext a3;have bO:=Ey (k:=10) (Arr.new w7 135 (Ar [D,E,F,G,H,I] sx S Z U T W V)) rfl;have cR:(Ar [D,E,F,G,H,I] sx S Z U T W V).toArray=#[.int .i64 D,.int .i64 E,.int .i64 F,.int .i64 G,.int .i64 H,.int .i64 I,.bool sx,.slice S Z U,.bool false,.slice T W V]:=rfl
         have cd:w.heap.size<=(w7.alloc (.cells (Ar [D,E,F,G,H,I] sx S Z U T W V).toArray 135)).heap.size:=(aw.trans a3).size;have cz:=qh (aw.trans a3);have cr:Hid (∀ i,i<N->Cn (w7.alloc (.cells (Ar [D,E,F,G,H,I] sx S Z U T W V).toArray 135)) (O.getD i []) ((Pl.picked l f).getD i ([],0))):=qh fun i hi=>(av.out i hi).ext a3
         have cq:Hid (Cn (w7.alloc (.cells (Ar [D,E,F,G,H,I] sx S Z U T W V).toArray 135)) (Ar [D,E,F,G,H,I] sx S Z U T W V) ([D,E,F,G,H,I],q)):=qh ⟨sx,S,Z,U,T,W,V,rfl,rfl,sx,S,Z,U,T,W,V,rfl,bE,bp.ext a3,bq.ext a3⟩;have bi:=qh (ay.ext a3);have bv:=qh (aj.out.ext a3);have aL:=qh hA8;rw[cR]at hA8 bO cd;have cW:=am.1.len (by omega);clear ay am av aj bp bq
         go_wp2_with(refine Mm rfl rfl (by kernel_rfl) Df rfl hA8 rfl bO (by intro r hr u hu;rw[fi.1 hr]at hu;exact BO u hu) (by intro r hr u hu;rw[fi.1 hr]at hu;exact BV u hu) (by omega) (by omega) cd ?_;intro w9 cL ad)
         have bw:Hid (AC w9 it w.heap.size l.length (f ++ [i])):=qh (bv.out.kept ad (by have:=J4 aL.out.1 bv.out;simpa using fun h=>this h.symm));go_roundw
         case rel =>
          have hU:=aL.out.2;have cT:w.heap.size≠g:=by
           obtain⟨m8,h8,_⟩:=bi.out;exact fun h=>Fe aL.out.1 h8 h.symm
          refine⟨f ++ [i],N+1,_,rfl,cz.out.grownR ad (by omega),bi.out.keptU hU ad cT,bw.out,A.out.1,A.out.2.1,cL,by rw[ab.out,fo,R.out];rfl,qh fun j hj => ?_⟩;rw[ab.out];by_cases cO:j=N
          · subst cO;rw[gqq,gd (by omega),cW,jo,gqq,gd (by rw[R.out];exact lrf _),R.out,jo];exact cq.out.keptU hU ad
          · rw[gqq,fj (by omega),<-gqq,gqq (l:=Pl.picked l f ++ _),fj (by rw[R.out];omega),<-gqq];exact(cr.out j (by omega)).keptU hU ad
         case measure =>
          have e1:=J5 bw.out;have e2:=A.out.2.2;rw[bZ,e1];simp;omega
theorem Fi{k:Nat}:∀ (a:List (List Value)),(∀ r∈a,r.length=k)->∀ i o (vs:List Value),o+vs.length<=k->i<a.length ->
 a.flatten.take (i*k+o) ++ vs ++ a.flatten.drop (i*k+o+vs.length)=(a.set i ((a.getD i []).take o ++ vs ++ (a.getD i []).drop (o+vs.length))).flatten
 | [],_,i,o,vs,_,hi=>by simp at hi
 | r :: rest,h,0,o,vs,hv,_=>by
  have hr:r.length=k:=h r (by simp);simp only[iE,fZ,jV,jO,lf];rw[List.take_append_of_le_length (by omega),List.drop_append_of_le_length (by omega),<-ge]
 | r :: rest,h,i+1,o,vs,hv,hi=>by
  have hr:r.length=k:=h r (by simp);have d:=Fi rest (fun x c=>h x (by simp[c])) i o vs hv (by simpa using hi);have e:(i+1)*k+o=k+(i*k+o):=by rw[ip];omega
  have b:k+(i*k+o)+vs.length=k+(i*k+o+vs.length):=by omega
  simp only[jV,jr,lg,e,b];rw[<-d,<-hr,List.take_length_add_append,List.drop_length_add_append];simp
section
variable {w:World} {base:Nat} {e:TypeId} {k g n:Nat} {rows:List (List Value)}
theorem AE.arrK(h:AE w base e k (some ⟨g,0,none⟩) n n rows):Arr w g e rows.flatten:=by
 rcases h.2.2 with⟨a,_⟩|⟨l,d,b,a,m,f,i,o,j,c⟩
 · simp at a
 simp only[fd,fc,gz,ij,kf]at a;obtain⟨rfl,rfl⟩:=a;have h2:b.toList=rows.flatten:=by rw[<-c,f9 (by simp[j])]
 unfold Arr;rw[f,<-h2]
theorem Arr.ownK(h:Arr w g e rows.flatten)(b:∀ r∈rows,r.length=k)(f:rows.length=n)(c:base<=g)(d:n<=maxLen):AE w base e k (some ⟨g,0,none⟩) n n rows:=by
 have a:=Cm rows b;rw[f]at a;refine⟨b,by rw[a],Or.inr ⟨g,n,rows.flatten.toArray,rfl,c,h,lrf _,d,by simpa using a,?_⟩⟩;simpa using f9 (by rw[a];exact lrf _)
end
def Gt(vars:Int)(t:Tx):Prop:=(Bn t.1).isSome=true/\(t.2.length:Int)=vars/\Ci t.2=true
def Cr(t:Tx):Pl.Tm:=(Ab t.2,(Bn t.1).getD 0)
def Wp:List Value:=Ar ze false none 0 0 none 0 0
def Qh(w:World)(vars:Int)(ts:List Tx)(e:Ending)(w':World):Prop :=
 (¬ (0<=vars/\vars<=6)/\Mo w 0 [] 3 e w')\/(0<=vars/\vars<=6/\¬ (∀ t∈ts,Gt vars t)/\Mo w 0 [] 1 e w')\/(0<=vars/\vars<=6/\(∀ t∈ts,Gt vars t)/\Lv w (resQ vars (ts.map Cr)) e w')
structure Lw(p:List Pl.Tm):Prop where
 pre:∀ a s,a ++ s=p->∀ e,Pl.RB 2400 (Pl.coef a e)
 each:∀ t∈p,Pl.RB 2400 t.2
 fits:Qg p
theorem Rk{ts:List Tx}(hT:Bk w)(h:CP w A n c ts)(hs:∀ t∈ts,t.1.length<=570)(hn:n<=1000000)(ay:0<=vars->vars<=6->(∀ t∈ts,Gt vars t)->Lw (ts.map Cr)) :
 Calls prog 40 #[.int .i64 vars,.slice A n c] w (Qh w vars ts):=by
 have aI:=h.len;obtain⟨bk,hS,_,hq⟩:=h;have HQ:=qh hq;have HL:=qh aI;have HS:=qh hs;clear hq aI hs
 go_enter func40,ntmps40
 go_upto_region 1 with(fail)
 refine Bv ?_;intro w0 M aT bF;have hR:Arr w0 w.heap.size 24 (AF 0 none 0 0):=aT;have bN:(AF 0 none 0 0).toArray=#[.int .i64 0,.slice none 0 0]:=rfl;clear aT bF;by_cases hv:0<=vars/\vars<=6
 · obtain⟨a5,a6⟩:=hv;have bq:=qh (ay a5 a6);clear ay;obtain⟨E,rfl⟩:∃ k:Nat,vars=(k:Int):=⟨vars.toNat,by omega⟩;have c1:¬ ((E:Int)<0):=by omega
   have c2:¬ ((6:Int)<(E:Int)):=by omega
   have aJ:nuR (List.replicate n Wp):=fun r hr u hu=>by rw[(gR.1 hr).2]at hu;exact BV u hu
   go_upto_region 4 with(refine P3 rfl rfl (by kernel_rfl) Df rfl rfl (by omega) (by unfold maxLen;omega) ?_;intro w1 an aU)
   obtain⟨G,hG⟩:∃ G,w0.heap.size=G:=⟨_,rfl⟩;rw[hG]at an |-;go_wp2
   go_loopw[23] (fun iv wr=>∃ (k:Nat) (a:List (List Value)),iv = .int .i64 k/\k<=n/\Ext w0 wr/\AE wr w0.heap.size 135 10 (some ⟨G,0,none⟩) n n a/\nuR a/\Hid (∀ i,i<k->Gt E (ts.getD i tm0)/\Cn wr (a.getD i []) (Cr (ts.getD i tm0)))/\Hid (∀ i,k<=i->i<n->a.getD i []=Wp)) (fun iv _=>n-(intOf iv).toNat)
   case atStart=>exact⟨0,_,rfl,fu _,aU,by rw[hG];exact an,aJ,qh (fun i d=>absurd d (by omega)),qh (fun i _ d=>by simp[d,Wp,ze])⟩
   case round =>
    clear an aU aJ;obtain⟨k,a,rfl,hk,hE,hO,aw,HC,HZ⟩:=hrel;have aX:=M.trans hE;by_cases ad:k<n
    · have ao:=hS.ext aX;obtain⟨b,bO,rfl,bu⟩:=ao.rd (by omega);obtain⟨s,ax,nx,cx,aK,a4,af⟩:=HQ.out k ad;have hY:=Arr.new wr 46 (tmL ⟨#[]⟩ none 0 0);have aC:bk.getD k []=tmL s ax nx cx:=aK
      go_upto_region 7 with(first
       | (refine Dz rfl rfl CQ rfl ao ad ?_;rw[aC])
       | (refine Aa (vs:=tmL s ax nx cx) rfl rfl rfl rfl rfl CQ hY rfl (FG _ _ _ _) ?_;intro w2 a8 b6))
      have a9:Ext wr w2:=((Ext.refl wr).alloc _).grownR b6 (lrf _);have aZ:=hO.ext a9;have ai:Hid (∀ i,i<k->Gt E (ts.getD i tm0)/\Cn w2 (a.getD i []) (Cr (ts.getD i tm0))):=qh fun i d=>⟨(HC.out i d).1,(HC.out i d).2.ext a9⟩;have ag:=hE.trans a9;have aF:=M.trans ag;have S:=af.ext aF;have F:Hid (ts.getD k tm0∈ts):=qh (by simp[HL.out,ad]);have ba:s.size<=570:=by rw[<-AD,a4];exact HS.out _ F.out
      have a2:=qh (J1 (w:=w2) (hT.ext aF) ba);rw[a4]at a2;obtain⟨t,aR⟩:∃ t,Hid (ts.getD k tm0=t):=⟨_,qh rfl⟩;rw[aR.out]at a2 S af a4 F;obtain⟨t1,P⟩:=t;simp only at a2 S af a4;obtain⟨X,hX⟩:∃ x,wr.heap.size=x:=⟨_,rfl⟩;rw[hX]at a8 |-;have bI:G<X:=by have:=(hO.lt (g:=G) rfl).2;omega
      have y0:=a8.c 0 rfl;have y1:=a8.c 1 rfl;clear hY b6 hO hE a9 aK aC bu ao HC a4 ba
      go_wp2_with fail
      refine a2.out.mono ?_;rintro e w3 ⟨_,rfl,aa,B,f,m,j,o,z,y,rfl,aQ,bc,be⟩;have b5:=Arr.new w3 125 (As false none 0 0 false none 0 0);have bx:(As B f m j false o z y).toArray=#[.bool B,.slice f m j,.bool false,.slice o z y]:=rfl
      go_upto_region 8 with(refine Aa (vs:=As B f m j false o z y) rfl rfl rfl rfl rfl Ac b5 rfl (Aq _ _ _ _ _ _ _ _) ?_;intro w4 U b7)
      have R:Ext w3 w4:=((Ext.refl w3).alloc _).grownR b7 (lrf _);have H:=aa.trans R;have Q:=ag.trans H;have I:=M.trans Q;have ab:=hR.ext Q;have C:=aZ.ext H;have aj:Hid (∀ i,i<k->Gt E (ts.getD i tm0)/\Cn w4 (a.getD i []) (Cr (ts.getD i tm0))):=qh fun i d=>⟨(ai.out i d).1,(ai.out i d).2.ext H⟩;have T:=S.ext H;have y1:=H.cell y1;have aA:=bc.ext R;have aB:=be.ext R;have ae:=T.len;obtain⟨Y,b4⟩:∃ x,w3.heap.size=x:=⟨_,rfl⟩;rw[b4]at U |-;have z0:=U.c 0 rfl;have z1:=U.c 1 rfl;have z2:=U.c 2 rfl
      have z3:=U.c 3 rfl;clear b5 b7 bx aa R bc be aZ ai S y0 a8 a2 ag U b4;cases K:Bn t1 with
      | none =>
       have a0:Hid (¬ ∀ t∈ts,Gt E t):=qh (fun h=>by have:=(h _ F.out).1;rw[K]at this;cases this);simp only[mK];clear K
       go_wp2_with(refine Aa (vs:=AF 0 none 0 0) rfl rfl rfl rfl rfl Ax ab rfl (AW _ _ _ _) ?_;intro w9 L O)
       refine fh (Az rfl Ax rfl rfl L) rfl ?_;exact Or.inr (Or.inl ⟨a5,a6,a0.out,none,0,0,rfl,I.grownR O (lrf _),TmO.nil _ _⟩)
      | some q =>
       simp only[kJ,K,fW]at aQ aA aB |-;by_cases D:(nx:Int)=E
       · have bi:((nx:Int) != (E:Int))=false:=by simp[D]
         cases Z:Ci P with
         | false =>
          have a0:Hid (¬ ∀ t∈ts,Gt E t):=qh (fun h=>by have:=(h _ F.out).2.2;rw[show((t1,P):Tx).2=P from rfl,Z]at this;cases this);have W:=qh (Ex T);rw[Z]at W;have bo:=qh D;clear K Z D
          go_wp2_with fail
          refine W.out.mono ?_;rintro e w5 ⟨rfl,rfl⟩
          go_wp2_with(refine Aa (vs:=AF 0 none 0 0) rfl rfl rfl rfl rfl Ax ab rfl (AW _ _ _ _) ?_;intro w9 L O)
          refine fh (Az rfl Ax rfl rfl L) rfl ?_;exact Or.inr (Or.inl ⟨a5,a6,a0.out,none,0,0,rfl,I.grownR O (lrf _),TmO.nil _ _⟩)
         | true =>
          have bm:Hid (Gt E (t1,P)):=qh ⟨by rw[show((t1,P):Tx).1=t1 from rfl,K];rfl,by show(P.length:Int)=E;rw[ae];exact D,Z⟩;have bn:Hid (Cr (t1,P)=(Ab P,q)):=qh (by show(Ab P,(Bn t1).getD 0)=_;rw[K];rfl);have W:=qh (Ex T);rw[Z]at W;have bz:nx<=6:=by omega
          have b9:=HZ.out k (lrf _) ad;have az:=C.len (by omega);have aq:=Cm a C.1;rw[az]at aq
          have aN:Hid (a.flatten.take (k*10+6) ++ As B f m j false o z y ++ a.flatten.drop (k*10+6+(As B f m j false o z y).length)=(a.set k (Ar ze B f m j o z y)).flatten):=qh (by
           rw[Fi a C.1 k 6 (As B f m j false o z y) (by simp[As,Ae]) (by omega),b9]
           rfl)
          have bb:∀ r∈a.set k (Ar ze B f m j o z y),r.length=10:=fun r hr=>by
           rcases j7 hr with h|h
           · exact C.1 r h
           · rw[h,Dl];rfl
          have bl:Hid ((a.set k (Ar ze B f m j o z y)).flatten.take (k*10) ++ P.map (Value.int .i64) ++ (a.set k (Ar ze B f m j o z y)).flatten.drop (k*10+nx)=(a.set k (Ar (Ab P) B f m j o z y)).flatten):=qh (by
           have h1:=Fi (a.set k (Ar ze B f m j o z y)) bb k 0 (P.map (Value.int .i64)) (by simp;omega) (by simp;omega);rw[gE,fq,ae]at h1;rw[h1,List.set_set];congr 2;have e1:(a.set k (Ar ze B f m j o z y)).getD k []=Ar ze B f m j o z y:=by rw[gqq,lP (by omega)];rfl
           rw[e1,jc,iM,fZ];unfold Ar Ab;have hz:ze=List.replicate 6 0:=rfl
           rw[hz,jP,fY,jP,lM,List.drop_replicate,ae,List.length_replicate,show nx-6=0 by omega,gP,ge])
          have hA4:=C.arrK;have bo:=qh D;have bp:=qh C.1;have bH:=(C.lt (g:=G) rfl);have ac:=C.noU aw;have b8:(k:Int)<n:=by omega
          have bK:X≠G:=by omega
          clear K Z D b9 C
          go_wp2_with fail
          refine W.out.mono ?_;rintro e w5 ⟨rfl,rfl⟩;clear W
          go_upto_region 11 with(refine Ch rfl rfl (As B f m j false o z y) _ (by kernel_rfl) rfl rfl rfl hA4 (by rw[aq];simp[As,Ae];omega) (Aq _ _ _ _ _ _ _ _) aN.out ?_;intro w5 hA5 N)
          have bG:∀ v∈(a.set k (Ar ze B f m j o z y)).flatten,∀ i,v ≠ .int .u64 i:=fun v hv=>by
           obtain⟨r,hr,hu⟩:=kc.1 hv;rcases j7 hr with h|h
           · exact aw r h v hu
           · rw[h]at hu;exact BV v hu
          have bC:w.heap.size<=G:=by have:=M.size;omega
          have aG:=I.grownR N bC;have aE:=Q.grownR N (kH hG);have aL:=af.ext aG;have yy:w5.cell? ⟨X,1,none⟩=some (.slice ax nx cx):=by rw[il (w:=w4) (N.block X (gT w4 ⟨X,1,none⟩ y1) (by simp;omega)),y1]
          have ak:Hid (∀ i,i<k->Gt E (ts.getD i tm0)/\Cn w5 (a.getD i []) (Cr (ts.getD i tm0))):=qh fun i d=>⟨(aj.out i d).1,(aj.out i d).2.keptU ac N⟩;have bd:=aA.keptU ac N;have bf:=aB.keptU ac N;have aH:=Cm _ bb;rw[iC,az]at aH;clear y1 z0 z1 z2 z3 hA4 ac N aj aA aB T ab Q I aN aq
          go_still_tail 7,(by kernel_rfl)
          change wpList _ _ _ _ _ w5.drew;have hA6:Arr w5.drew G 135 (a.set k (Ar ze B f m j o z y)).flatten:=hA5;have V:=(Ext.refl w5).drew;have bj:=aL.ext V;have bh:=aE.trans V;have aM:Hid (∀ i,i<k->Gt E (ts.getD i tm0)/\Cn w5.drew (a.getD i []) (Cr (ts.getD i tm0))):=qh fun i d=>⟨(ak.out i d).1,(ak.out i d).2.ext V⟩;have bD:=bd.ext V;have bE:=bf.ext V;clear hA5 aL aE aG ak bd bf V yy;generalize w5.drew=w6 at *
          have b2:=hA6.noU bG
          go_wp2_with(refine LS (sT:=35) rfl rfl underlying35 GW rfl rfl hA6 bj bz (by rw[aH];omega) (A4 _) ?_;intro w7 hA7 au;rw[bl.out]at hA7)
          go_roundw
          case rel =>
           have bB:∀ r∈a.set k (Ar (Ab P) B f m j o z y),r.length=10:=fun r hr=>by
            rcases j7 hr with h|h
            · exact bp.out r h
            · rw[h,Dl,AA (by omega)]
           refine⟨k+1,a.set k (Ar (Ab P) B f m j o z y),by go_num,by omega,bh.grownR au (kH hG),hA7.ownK bB (by rw[iC];exact az) (kH hG) (by unfold maxLen;omega),?_,qh fun i d => ?_,qh fun i h1 h2 => ?_⟩
           · intro r hr u hu;rcases j7 hr with h|h
             · exact aw r h u hu
             · rw[h]at hu;exact BV u hu
           · by_cases bw:i=k
             · subst bw;rw[aR.out];refine⟨bm.out,?_⟩;rw[bn.out,gqq,lP (by omega)];exact Cn.keptU ⟨B,f,m,j,o,z,y,rfl,AA (by show P.length<=6;omega),B,f,m,j,o,z,y,rfl,aQ,bD,bE⟩ b2 au
             · rw[gqq (l:=a.set _ _),jx (by omega),<-gqq];exact⟨(aM.out i (by omega)).1,(aM.out i (by omega)).2.keptU b2 au⟩
           · rw[gqq (l:=a.set _ _),jx (by omega),<-gqq];exact HZ.out i (by omega) h2
          case measure=>simp[intOf];omega
       · have a0:Hid (¬ ∀ t∈ts,Gt E t):=qh (fun h=>D (by have:=(h _ F.out).2.1;rw[<-ae];exact this));have bi:((nx:Int) != (E:Int))=true:=by simpa using D
         clear K D
         go_wp2_with(refine Aa (vs:=AF 0 none 0 0) rfl rfl rfl rfl rfl Ax ab rfl (AW _ _ _ _) ?_;intro w9 L O)
         refine fh (Az rfl Ax rfl rfl L) rfl ?_;exact Or.inr (Or.inl ⟨a5,a6,a0.out,none,0,0,rfl,I.grownR O (lrf _),TmO.nil _ _⟩)
    · have b8:k=n:=by omega
      subst b8
      have aD:Hid (∀ t∈ts,Gt E t):=qh (fun t ht=>by
       obtain⟨i,d,rfl⟩:=io.1 ht;have:=(HC.out i (by rw[<-HL.out];exact d)).1;rw[gqq,eZ d]at this
       exact this)
      have a1:=bq.out aD.out;have br:=qh a1
      have aW:CV wr (some ⟨G,0,none⟩) k k (ts.map Cr):=⟨a,hO.slk (by omega),by simp[HL.out],fun i d=>by
       have h1:=(HC.out i d).2;have h2:(ts.map Cr).getD i ([],0)=Cr (ts.getD i tm0):=by simp[HL.out,d]
       rw[h2];exact h1⟩
      have am:=(Ext.refl wr).alloc (.cells #[.slice (some ⟨G,0,none⟩) k k] 72);have aY:Nr (wr.alloc (.cells #[.slice (some ⟨G,0,none⟩) k k] 72)) (some ⟨wr.heap.size,0,none⟩) 1 1 [ts.map Cr]:=by
       refine⟨[.slice (some ⟨G,0,none⟩) k k],(Au wr wr.heap.size 72 #[.slice (some ⟨G,0,none⟩) k k] 1 rfl (lrf _) (by omega)).sl,rfl,fun i d => ?_⟩;have:i=0:=by omega
       subst this;exact⟨_,k,k,rfl,aW.ext am⟩
      have J:[ts.map Cr].flatten=ts.map Cr:=by simp
      have al:=qh (Mp ((hT.ext aX).ext am) aY (by omega) (by rw[J];exact a1.fits.len) (by rw[J];exact a1.pre) (by rw[J];exact a1.each));rw[J]at al;have ah:=hE.trans am;have bJ:=hR.ext ah;clear a1 aW aY hO HC HZ J
      go_wp2_with fail
      refine al.out.mono ?_;rintro e w3 ⟨bP,⟨f,m,j,rfl,aa,b0⟩,av,ap⟩;have ar:=br.out.fits.out av ap;have bL:=b0.len;have aS:=qh (O9 (vars:=E) (w0:=w0) (hT.ext M) (ah.trans aa) (b0.mono ah.size) (by omega) ar.1 ar.2.1 (by omega));have aO:=qh (And.intro av ap);clear av ap ar al
      go_wp2_with fail
      refine aS.out.mono ?_;intro e w7 hw;have hq:=Qf.q (p:=ts.map Cr) hw aO.out.1 aO.out.2;obtain⟨rr,aP⟩:∃ r,Hid (resQ (E:Int) (ts.map Cr)=r):=⟨_,qh rfl⟩;rw[aP.out]at hq;obtain⟨a7,n7,c7,rfl,aV,bt⟩:=hq;have bA:Qe rr.1 a7 n7 c7 = .agg #[.int .i64 rr.1,.slice a7 n7 c7]:=rfl;rw[bA];have bM:(AF rr.1 a7 n7 c7).toArray=#[.int .i64 rr.1,.slice a7 n7 c7]:=rfl;have b1:=hR.ext aV;clear hw aS
      go_wp2_with(refine Aa (vs:=AF rr.1 a7 n7 c7) rfl rfl rfl rfl rfl Ax b1 rfl (AW _ _ _ _) ?_;intro w8 bs bv)
      refine fh (Az rfl Ax rfl rfl bs) rfl ?_;exact Or.inr (Or.inr ⟨a5,a6,aD.out,by rw[aP.out];exact NA M aV bt b1 bv (lrf _)⟩)
 · have HF:Hid (∀ e w',Mo w 0 [] 3 e w'->Qh w vars ts e w'):=qh (fun e w' h=>Or.inl ⟨hv,h⟩);have bg:vars<0\/(¬ vars<0/\6<vars):=by omega
   clear hv ay;rcases bg with h1|⟨h1,h2⟩
   all_goals
    go_wp2_with(refine Aa (vs:=AF 0 none 0 0) rfl rfl rfl rfl rfl Ax hR rfl (AW _ _ _ _) ?_;intro w9 L O)
    refine fh (Az rfl Ax rfl rfl L) rfl ?_;exact HF.out _ _ ⟨none,0,0,rfl,M.grownR O (lrf _),TmO.nil _ _⟩
end Go.Proofs.YthdbingomfdeoaaGreatDoor
namespace Go.Proofs.YthdbingomfdeoaaGreatDoor.Pl
variable {d e g:Nat} {x:Rat}
theorem Qi(a b c:Rat):a*(b*c)=b*(a*c):=by rw[<-iT,lQ a b,iT]
def grt(l:List Tm)(v:Nat):Nat:=l.foldl (fun a t=>max a (t.1.getD v 0).toNat) 0
theorem Lx(v:Nat):∀ (l:List Tm) (a:Nat),a<=l.foldl (fun a t=>max a (t.1.getD v 0).toNat) a/\∀ t∈l,(t.1.getD v 0).toNat<=l.foldl (fun a t=>max a (t.1.getD v 0).toNat) a
 | [],a=>⟨lrf _,by simp⟩
 | t :: r,a=>by
  have h:=Lx v r (max a (t.1.getD v 0).toNat);refine⟨ft (Nat.le_max_left _ _) h.1,fun s b => ?_⟩;rcases fV.1 b with rfl|b
  · exact ft (Nat.le_max_right _ _) h.1
  · exact h.2 s b
theorem le_grt{l:List Tm}{t:Tm}(v:Nat)(h:t∈l):(t.1.getD v 0).toNat<=grt l v:=(Lx v l 0).2 t h
def pwz(x:Rat)(g e:Nat):Int:=x.num^e*(x.den:Int)^(g-e)
theorem Fj(z:Int):∀ e:Nat,((z^e:Int):Rat)=(z:Rat)^e
 | 0=>by rw[Int.pow_zero,m7];rfl
 | e+1=>by rw[Int.pow_succ,kU,kh,Fj z e]
theorem SX(a b:Rat):∀ e:Nat,(a*b)^e=a^e*b^e
 | 0=>by simp[m7]
 | e+1=>by rw[kU,kU,kU,SX a b e];simp only[iT,lQ,Qi]
theorem SY(a:Rat)(i:Nat):∀ j:Nat,a^(i+j)=a^i*a^j
 | 0=>by simp[m7]
 | j+1=>by rw[<-iU,kU,kU,SY a i j,iT]
theorem Wq(h:e<=g):((pwz x g e:Int):Rat)=x^e*(x.den:Rat)^g:=by
 unfold pwz;rw[kh,Fj,Fj,<-VY x,SX,Rat.intCast_natCast,iT,<-SY,Nat.add_sub_cancel' h]
def valE(pt:List Rat)(es:List Int):Nat->Rat
 | 0=>1
 | k+1=>valE pt es k*(pt.getD k 0)^(es.getD k 0).toNat
def evq(pt:List Rat)(l:List Tm):Rat:=l.foldr (fun t a=>t.2*valE pt t.1 pt.length+a) 0
def zev(d:Nat)(g:Nat->Nat)(pt:List Rat)(t:Tm):Nat->Int
 | 0=>zsc t.2 d
 | k+1=>zev d g pt t k*pwz (pt.getD k 0) (g k) (t.1.getD k 0).toNat
def dev(d:Nat)(g:Nat->Nat)(pt:List Rat):Nat->Nat
 | 0=>d
 | k+1=>dev d g pt k*(pt.getD k 0).den^(g k)
theorem IX(z:Nat):∀ e:Nat,((z^e:Nat):Rat)=(z:Rat)^e
 | 0=>by rw[kV,m7];rfl
 | e+1=>by rw[gr,kU,kg,IX z e]
theorem SZ{d:Nat}{g:Nat->Nat}{pt:List Rat}{t:Tm}(a:t.2.den∣d):∀ k,(∀ v,v<k->(t.1.getD v 0).toNat<=g v)->((zev d g pt t k:Int):Rat)=t.2*valE pt t.1 k*(dev d g pt k:Rat)
 | 0,_=>by
  unfold zev valE dev;rw[SW a,kR]
 | k+1,h=>by
  unfold zev valE dev;rw[kh,SZ a k (fun v b=>h v (by omega)),Wq (h k (by omega)),kg,IX];simp only[iT,lQ,Qi]
theorem dev_ne{d:Nat}{g:Nat->Nat}{pt:List Rat}(a:d≠0):∀ k,dev d g pt k≠0
 | 0=>a
 | k+1=>mn (dev_ne a k) (Nat.ne_of_gt (jd (pt.getD k 0).den_pos))
def zsum(f:Tm->Int)(l:List Tm):Int:=l.foldl (fun a t=>a+f t) 0
theorem zsum_foldl(f:Tm->Int):∀ (l:List Tm) (a:Int),l.foldl (fun a t=>a+f t) a=a+l.foldr (fun t a=>f t+a) 0
 | [],a=>by simp
 | t :: r,a=>by rw[jG,zsum_foldl f r,jg];omega
theorem S0{d:Nat}{g:Nat->Nat}{pt:List Rat}:∀ {l:List Tm},(∀ t∈l,t.2.den∣d/\∀ v,v<pt.length->(t.1.getD v 0).toNat<=g v)->((l.foldr (fun t a=>zev d g pt t pt.length+a) 0:Int):Rat)=evq pt l*(dev d g pt pt.length:Rat)
 | [],_=>by simp[evq]
 | t :: r,h=>by
  have ih:=S0 (l:=r) (fun s c=>h s (by simp[c]));have b:=h t (by simp);unfold evq at ih |-;rw[jg,jg,mj,ih,SZ b.1 _ b.2,Rat.add_mul]
theorem ev_done{pt:List Rat}{l:List Tm}(b:d≠0)(h:∀ t∈l,t.2.den∣d) :
 mkRat (zsum (fun t=>zev d (grt l) pt t pt.length) l) (dev d (grt l) pt pt.length)=evq pt l:=by
 have h0:=dev_ne (g:=grt l) (pt:=pt) b pt.length;rw[mkRat_div];unfold zsum;rw[zsum_foldl,Int.zero_add,S0 (fun t a=>⟨h t a,fun v _=>le_grt v a⟩),iT,mJ _ (by simpa using h0),kR]
end Go.Proofs.YthdbingomfdeoaaGreatDoor.Pl
namespace Go.Proofs.YthdbingomfdeoaaGreatDoor
open Go Go.RowKit
variable {e:List Int} {v:Nat}
structure EvB(l:List Pl.Tm)(pt:List Rat):Prop where
 co:∀ t∈l,Pl.RB 2400 t.2
 po:∀ q∈pt,Pl.RB 2400 q
 ex:∀ t∈l,∀ e∈t.1,0<=e/\e<=1048576
 lc:∀ k,Id ((l.map (·.2)).take k)<P2 9600
 pn:∀ v,v<pt.length->∀ e,e<=Pl.grt l v->(pt.getD v 0).num.natAbs^e<P2 1200
 pd:∀ v,v<pt.length->∀ e,e<=Pl.grt l v->(pt.getD v 0).den^e<P2 1200
 ze:∀ t∈l,∀ k,k<=pt.length->(Pl.zev (Id (l.map (·.2))) (Pl.grt l) pt t k).natAbs<P2 9600
 de:∀ k,k<=pt.length->Pl.dev (Id (l.map (·.2))) (Pl.grt l) pt k<P2 9600
 su:(Pl.zsum (fun t=>Pl.zev (Id (l.map (·.2))) (Pl.grt l) pt t pt.length) l).natAbs<P2 9600
theorem S3{v B:Nat}:∀ (l:List Pl.Tm) (a:Nat),a<=B->(∀ t∈l,(t.1.getD v 0).toNat<=B)->l.foldl (fun a t=>max a (t.1.getD v 0).toNat) a<=B
 | [],_,ha,_=>ha
 | t :: r,_,ha,h=>S3 r _ (Nat.max_le.2 ⟨ha,h t (by simp)⟩) (fun s b=>h s (by simp[b]))
theorem S4(h:∀ x∈e,0<=x/\x<=1048576):0<=e.getD v 0/\e.getD v 0<=1048576:=by
 rw[gqq];cases a:e[v]? with
 | none=>simp
 | some x=>exact h x (gS a)
end Go.Proofs.YthdbingomfdeoaaGreatDoor
