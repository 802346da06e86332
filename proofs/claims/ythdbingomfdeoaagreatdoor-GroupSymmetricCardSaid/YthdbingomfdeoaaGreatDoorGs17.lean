/- Part Gs17. -/
import Derived.Test.YthdbingomfdeoaaGreatDoorGs16
import Derived.Deep.CutBlock
import Derived.Deep.LoopGhost
import Derived.BigQuiet
import Derived.ProofKit
import Derived.Lib.LaidTab
import Derived.Stop.LaidErr
import Derived.MakeChecks
import Derived.SliceStrings
set_option linter.all false
set_option maxRecDepth 100000
set_option maxHeartbeats 100000000
namespace Go.Proofs.YthdbingomfdeoaaGreatDoor
open Go Go.RowKit
def lR:=@List.perm_append_comm
variable {rows:List (List Value)} {zs:List Value} {base bytes c h k n x:Nat} {y:Operand} {a:Option Addr} {e t:TypeId} {w:World}
theorem Mg.len{w:World}{a:Option Addr}{n c x:Nat}(h:Mg w a n c x){k:Nat}(b:x<P2 (32*k)):n<=k:=by
 obtain⟨d,h1,h2,-⟩:=h;unfold P2 at b;rw[ju]at b;have h3:=W.nrm_len (B:=4294967296) (by omega) h2.nrm (by rw[h2.val];exact b);rw[h1.len]at h3;exact h3
theorem Mg.pos(h:Mg w a n c x)(h0:0<x):0<n:=by
 have:=h.zero;omega
structure GS(w wr:World)(g:Nat)(aa:Option Addr)(na ca:Nat)(ab:Option Addr)(nb cb X Y:Nat):Prop where
 ext:Ext w wr
 x:Mg wr aa na ca X
 y:Mg wr ab nb cb Y
 g:Nat.gcd X Y=g
 bx:X<P2 3200000
 b_y:Y<P2 3200000
theorem Mg.top(h:Mg w a n c x)(l:0<n):∃ b e t,a=some ⟨b,e,none⟩/\w.cell? ⟨b,e+(n-1),none⟩=some (.int .u32 ((t:Nat):Int))/\0<t/\t<4294967296/\(n=1->x=t)/\(1<n->4294967296<=x):=by
 obtain⟨f,h1,h2,h3⟩:=h;obtain⟨b,e,rfl,i⟩:=h1.at (j:=n-1) (by omega);have g:=h1.len;have d:f≠[]:=by rintro rfl;simp at g;omega
 have m:=h2.nrm d;have k:f.getD (n-1) 0=f.getLast d:=by
  rw[ka,gqq,<-g,eZ (by omega),fW]
 refine⟨b,e,f.getD (n-1) 0,rfl,i (n-1) (by omega),by omega,?_,?_,?_⟩
 · rw[k];exact h2.bnd _ (List.getLast_mem d)
 · intro h5;subst h5
   match f,g with
   | [y],_=>have h6:=h2.val;simp[W.val]at h6;simpa using h6.symm
 · intro h5;have h6:=W.nrm_pos (B:=4294967296) (by omega) h2.nrm d;rw[h2.val,g]at h6;exact ft (by have:=fx (n:=4294967296) (by omega) (show 1<=n-1 by omega);simpa using this) h6
abbrev tz:Pl.Tm:=([],0)
theorem AE.ty(h:AE w base e k a n c rows){g:Nat}(d:blk a=some g):∃ i l,w.heap[g]?=some (.cells i e l):=by
 rcases h.2.2 with⟨b,_⟩|⟨m,f,j,b,_,o,_⟩
 · simp only[fd]at b;rw[b.1]at d;cases d
 · simp only[fd]at b;rw[b.1]at d;have:m=g:=by simpa[blk]using d
   subst this;exact⟨_,_,o⟩
theorem getD_some{l:List Pl.Tm}{i:Nat}(hi:i<l.length):l[i]?=some (l.getD i tz):=by
 rw[gqq,eZ hi,fW]
theorem SlK.cl{b a:Nat}(h:SlK w k (some ⟨b,a,none⟩) n c rows){i j:Nat}(hi:i<n)(g:j<k):w.cell? ⟨b,a+i*k+j,none⟩=some ((rows.getD i []).getD j undef):=by
 obtain⟨l,e,d,f⟩:=h.rd (by omega);simp only[fc,gz,ij]at d;obtain⟨rfl,rfl⟩:=d;exact f i hi j g
section
variable {P:Program} {w:World}
theorem Ge(m:P.underlying t=some (.slice e))(b:Cq P e zs k bytes)(l:h<=c) :
 (Instr.sliceAt t (.slice a n c) none (some (.int .i64 h)) none).run P w = .ok (.slice a h c) w:=by
 obtain⟨i,j,o,d,g⟩:=b.parts;have f:(if c=0 then a else a.map (fun x=>x.add 0))=a:=by
  split
  · rfl
  · cases a <;> simp[Addr.add]
 have h0:(0:Int)<=h:=by omega
 have h1:(h:Int)<=c:=by omega
 simp[Instr.sliceAt,Instr.slice,Instr.sliceBounds,Instr.sliceBound,fT m,asIntOf,sizeOf,typeInfo,j,l,f]
end
section
variable {P:Program} {ops:Array Oper} {hs:List Hd} {a0:Act} {C:World->Prop} {i:Nat} {o:Oper}
theorem Lc{x:Operand}(j:o.guard=none)(f:o.op = .slice t x none (some y) none)
 (p:P.underlying t=some (.slice e)) (b:Cq P e zs k bytes) (l:∀ d w,DH d->Cs ops hs a0 o d w [x,y]->d x = .slice a n c/\d y = .int .i64 h) (m:h<=c) :
 obl P C ops hs a0 i o (he (.slice a h c)) :=
 JA j fun d w hp _ g=>by
  rw[f]at g;obtain⟨h1,h2⟩:=l d w hp g;simp only[execOp,f,h1,h2,ic,kI,fC,Ge p b m,fe,fQ]
end
end Go.Proofs.YthdbingomfdeoaaGreatDoor
namespace Go.Proofs.YthdbingomfdeoaaGreatDoor.Pl
variable {a b c:List Int} {i k n:Nat}
theorem Ld(e:a.length=n)(d:b.length=n)(f:c.length=n)(h1:0<=ordE a b)(h2:0<=ordE b c):0<=ordE a c:=by
 rcases Int.lt_or_eq_of_le h1 with h1|h1
 · rcases Int.lt_or_eq_of_le h2 with h2|h2
   · exact jY (ordE_trans h1 h2)
   · have:=ordE_eq (d.trans f.symm) h2.symm;subst this;exact jY h1
 · have:=ordE_eq (e.trans d.symm) h1.symm;subst this;exact h2
structure MS(n:Nat)(a b o:List Tm)(i k:Nat):Prop where
 perm:o.Perm (a.take i ++ b.take k)
 d:desc o
 up:∀ t∈o,∀ s,s∈a.drop i\/s∈b.drop k->0<=ordE t.1 s.1
 da:desc a
 db:desc b
 la:∀ t∈a,t.1.length=n
 lb:∀ t∈b,t.1.length=n
theorem MS.start{a b:List Tm}(c:desc a)(d:desc b)(f:∀ t∈a,t.1.length=n)(g:∀ t∈b,t.1.length=n):MS n a b [] 0 0 :=
 ⟨by simp,List.Pairwise.nil,(fun t e=>by cases e),c,d,f,g⟩
theorem LM{a:List Tm}(h:desc a){i:Nat}{x:Tm}(b:a[i]?=some x):∀ s∈a.drop (i+1),0<=ordE x.1 s.1:=by
 have c:i<a.length:=(gC.1 b).1;have h1:desc (a.drop i):=List.Pairwise.drop h;rw[gg c]at h1;have h2:a[i]=x:=(gC.1 b).2;rw[h2]at h1;exact(j3.1 h1).1
theorem MS.left{a b o:List Tm}(h:MS n a b o i k){x:Tm}(m:a[i]?=some x)(z:∀ y,b[k]?=some y->0<=ordE x.1 y.1):MS n a b (o ++ [x]) (i+1) k:=by
 have v:i<a.length:=(gC.1 m).1;have l:a[i]=x:=(gC.1 m).2;have q:x∈a:=gS m;have g:a.drop i=x :: a.drop (i+1):=by rw[gg v,l]
 have w:∀ s∈b.drop k,0<=ordE x.1 s.1:=by
  intro s c;cases f:b[k]? with
  | none =>
   rw[gu (List.getElem?_eq_none_iff.1 f)]at c;cases c
  | some y =>
   have p:k<b.length:=(gC.1 f).1;have r:b[k]=y:=(gC.1 f).2;have h0:=z y f;rw[gg p,r]at c;rcases fV.1 c with rfl|j
   · exact h0
   · exact Ld (h.la x q) (h.lb y (gS f)) (h.lb s (kC j)) h0 (LM h.db f s j)
 refine⟨?_,?_,?_,h.da,h.db,h.la,h.lb⟩
 · have h1:a.take (i+1)=a.take i ++ [x]:=by rw[ff v,l]
   rw[h1,ge];exact((h.perm.append_right [x]).trans (by rw[ge])).trans ((lR).append_left _)
 · refine List.pairwise_append.2 ⟨h.d,lK _ _,fun t e s c => ?_⟩;rw[fi.1 c];exact h.up t e x (Or.inl (by rw[g];exact List.mem_cons_self ..))
 · intro t e s c;rcases fL.1 e with e|e
   · refine h.up t e s (c.imp (fun c => ?_) id);rw[g];exact jS _ c
   · rw[fi.1 e];rcases c with c|c
     · exact LM h.da m s c
     · exact w s c
theorem MS.right{a b o:List Tm}(h:MS n a b o i k){y:Tm}(g:b[k]?=some y)(f:∀ x,a[i]?=some x->0<=ordE y.1 x.1):MS n a b (o ++ [y]) i (k+1):=by
 have h0:MS n b a o k i:=⟨h.perm.trans lR,h.d,fun t e s c=>h.up t e s c.symm,h.db,h.da,h.lb,h.la⟩;have h1:=h0.left g f;exact⟨h1.perm.trans lR,h1.d,fun t e s c=>h1.up t e s c.symm,h.da,h.db,h.la,h.lb⟩
theorem MS.done{a b o:List Tm}(h:MS n a b o a.length b.length):o.Perm (a ++ b):=by
 have:=h.perm
 rwa[kX,kX]at this
end Go.Proofs.YthdbingomfdeoaaGreatDoor.Pl
namespace Go.Proofs.YthdbingomfdeoaaGreatDoor.Pl
variable {i k:Nat} {c:Rat}
def LN(l:List Tm):Prop:=∀ a s,(a ++ s).Perm l->∀ e,RB 1000000 (coef a e)
theorem LN.perm{l b:List Tm}(h:LN l)(p:b.Perm l):LN b:=fun a s hp e=>h a s (hp.trans p) e
theorem LN.one{l:List Tm}(h:LN l){t:Tm}(d:t∈l):RB 1000000 t.2:=by
 obtain⟨b,c,rfl⟩:=List.append_of_mem d;have:=h [t] (b ++ c) (by simpa using(List.perm_middle (a:=t) (l₁:=b) (l₂:=c)).symm) t.1;simp only[coef,ke]at this
 rwa[kj]at this
structure SS(s out:List Tm)(i:Nat):Prop where
 le:i<=s.length
 eq:grp s=out ++ grp (s.drop i)
theorem SS.start(s:List Tm):SS s [] 0:=⟨fu _,by simp⟩
theorem SS.done{s out:List Tm}(h:SS s out s.length):out=grp s:=by
 have:=h.eq;rw[List.drop_length,VD,iO]at this;exact this.symm
structure SI(s:List Tm)(i k:Nat)(x:Tm)(c:Rat):Prop where
 hx:s[i]?=some x
 ik:i<k
 le:k<=s.length
 hc:Se x.1 x.2 (s.drop (i+1))=Se x.1 c (s.drop k)
 hr:PQ x.1 (s.drop (i+1))=PQ x.1 (s.drop k)
 hv:c=coef ((s.drop i).take (k-i)) x.1
theorem SI.start{s:List Tm}{x:Tm}(h:s[i]?=some x):SI s i (i+1) x x.2:=by
 have a:i<s.length:=(gC.1 h).1;have b:s[i]=x:=(gC.1 h).2;refine⟨h,by omega,by omega,rfl,rfl,?_⟩;rw[gg a,b,show i+1-i=1 by omega];simp only[l9,jc,coef,ke];rw[kj]
theorem SI.step{s:List Tm}{x:Tm}(h:SI s i k x c){y:Tm}(d:s[k]?=some y)(he:x.1=y.1):SI s i (k+1) x (c+y.2):=by
 have f:k<s.length:=(gC.1 d).1;have a:s[k]=y:=(gC.1 d).2;have b:s.drop k=y :: s.drop (k+1):=by rw[gg f,a]
 have e:=h.ik;refine⟨h.hx,by omega,by omega,?_,?_,?_⟩
 · rw[h.hc,b];simp only[Se,fG he]
 · rw[h.hr,b];simp only[PQ,fG he]
 · have h1:(s.drop i).take (k+1-i)=(s.drop i).take (k-i) ++ [y]:=by
    have h2:k-i<(s.drop i).length:=by rw[kE];omega
    rw[show k+1-i=k-i+1 by omega,ff h2];congr 2;rw[List.getElem_drop];have:i+(k-i)=k:=by omega
    simp only[this];exact a
   rw[h1,coef_app,<-h.hv];simp only[coef,fG he.symm];rw[kj]
theorem SI.rb{s:List Tm}{x:Tm}(h:SI s i k x c)(b:LN s):RB 1000000 c:=by
 rw[h.hv];refine b _ (s.take i ++ s.drop k) ?_ _;have e:s=s.take i ++ ((s.drop i).take (k-i) ++ s.drop k):=by
  have a:s.drop k=(s.drop i).drop (k-i):=by rw[lF];congr 1;have:=h.ik;omega
  rw[a,iz,iz]
 have p:((s.drop i).take (k-i) ++ (s.take i ++ s.drop k)).Perm (s.take i ++ ((s.drop i).take (k-i) ++ s.drop k)):=by
  rw[<-ge,<-ge];exact List.perm_append_comm.append_right _
 exact p.trans (List.Perm.of_eq e.symm)
end Go.Proofs.YthdbingomfdeoaaGreatDoor.Pl
namespace Go.Proofs.YthdbingomfdeoaaGreatDoor
open Tryz Go Go.RowKit
variable {f:Act} {ops:Array Oper} {Q:Exit->Act->World->Prop} {er va vars:Int} {R1 R2 news r rows:List (List Value)} {rest:List Oper} {cells cs ds zs:List Value} {b b' base bytes c c' c1 c2 cA cx g h k m n n1 n2:Nat} {o:Oper} {s:Operand} {A a a' a1 a2:Option Addr} {row:Option Nat} {P:Program} {e e' t ty u:TypeId} {w w' w0:World}
theorem AE.ne(h:AE w base e k a n c rows)(b:Arr w g t cs)(f:e≠t):some g≠blk a:=fun he=>by
 obtain⟨d,i,h4⟩:=h.ty he.symm;unfold Arr at b;rw[b]at h4;simp only[fc,jm]at h4;exact f h4.2.1.symm
theorem Mg.apart{x:Nat}(h:Mg w a n c x)(d:w.grownBy w' row)(b:blk a=none\/blk a≠row):Mg w' a n c x:=by
 obtain⟨e,h1,h2,h3⟩:=h;exact⟨e,h1.kept d b,h2,h3.kept d b⟩
structure DS(w wr:World)(x:Nat)(ps:List Nat)(a:Option Addr)(n c:Nat)(b:Option Addr)(m d:Nat):Prop where
 ext:Ext w wr
 own:Own wr w.heap.size 187 a n c (ps.map (B7 .u32))
 mg:Mg wr b m d (x/1000000000^n)
 ap:blk a=none\/blk b=none\/blk b≠blk a
 ps:∀ i,i<n->ps.getD i 0=x/1000000000^i%1000000000
 low:n=0\/1000000000^(n-1)<=x
structure DW(w wr:World)(x:Nat)(ps:List Nat)(a:Option Addr)(n c:Nat)(b:Option Addr)(m d:Nat)(l:List UInt8):Prop where
 ext:Ext w wr
 own:Own wr w.heap.size 187 a n c (ps.map (B7 .u32))
 out:Own wr w.heap.size 5 b m d (l.map AG)
structure FSt(w wr:World)(l:List UInt8)(k:Nat)(a:Option Addr)(n c:Nat):Prop where
 ext:Ext w wr
 res:Arr wr w.heap.size 107 (Ae false none 0 0)
 m:Mg wr a n c (W.decV (l.take k))
 ok:W.digs (l.take k)
section
variable {P:Program} {w:World}
theorem RJ 
 (y:P.underlying t=some (.slice e)) (d:Cq P e zs k bytes) (f:AE w base e k a n c rows) (p:SlK w k A m cx news)
 (h1:∀ r∈news,∀ u∈r,u.oneCell'=true) (h63:n+m<=maxLen) (j:(n+m)*bytes<=140737488355328) (l:base<=w.heap.size) :
 ∃ s B z,(Builtin.append_ #[t,t] ty #[.slice a n c,.slice A m cx]).run P w = .ok (.slice s (n+m) B) z/\AE z base e k s (n+m) B (rows ++ news) /\
  w.grownBy z (blk a)/\(blk s=blk a\/blk s=some w.heap.size):=by
 cases A with
 | some ad=>exact K1 y d f p h1 h63 j l
 | none =>
  obtain⟨i,C,I,x,F⟩:=d.parts;have G:m=0:=by
   rcases fF m with h0|h0
   · exact h0
   · obtain⟨b,o,h,_⟩:=p.rd h0;cases h
  subst G;have H:news=[]:=fk p.len;subst H;refine⟨a,c,w,?_,by simpa using f,ln w _,.inl rfl⟩;rcases f.2.2 with⟨q,rfl⟩|⟨g,D,E,q,_,_,v,_⟩
  · simp only[fd]at q;obtain⟨rfl,_,rfl⟩:=q;simp[Builtin.append_,fT y,sizeOf,typeInfo,C,Builtin.lenOf,Builtin.firstCells]
  · simp only[fd]at q;obtain⟨rfl,_,rfl⟩:=q;simp[Builtin.append_,fT y,sizeOf,typeInfo,C,Builtin.lenOf,Builtin.firstCells,v,storeCells]
theorem TS{x:Operand}(v:o.guard=none)
 (C:o.op = .call { callee := .builtin .append,args:=#[s,x],argTypes:=#[t,t] })
 {e:TypeId} {zs:List Value} {k bytes base:Nat} {a:Option Addr} {n c:Nat} {rows:List (List Value)} {A:Option Addr} {m z:Nat} {news:List (List Value)}
 (E:P.underlying t=some (.slice e)) (g:Cq P e zs k bytes) (D:f.eval s = .slice a n c) (j:AE w base e k a n c rows) (F:f.eval x = .slice A m z) (y:SlK w k A m z news)
 (h1:∀ r∈news,∀ u∈r,u.oneCell'=true) (h63:n+m<=maxLen) (b:(n+m)*bytes<=140737488355328) (d:base<=w.heap.size)
 (h:∀ i q p,AE p base e k i (n+m) q (rows ++ news)->w.grownBy p (blk a)->(blk i=blk a\/blk i=some w.heap.size)->wpList P ops Q rest (f.put o.dst (.slice i (n+m) q)) p) :
 wpList P ops Q (o :: rest) f w:=by
 refine gI v fun _ B => ?_;obtain⟨i,q,p,l,h2,h3,h4⟩:=RJ (P:=P) (ty:=o.type) E g j y h1 h63 b d;unfold Oper.wp execOp;simp only[C,resolve,invoke,builtin,fC,fQ,fe,iP,gD,iF,D,F,l];exact B _ _ (h i q p h2 h3 h4)
end
theorem Of(A:P.underlying t=some (.slice e))(hu:P.underlying u=some (.int .i64))(a:Cq P e zs k bytes)(v:0<k)(h0:0<n)(x:n<=1000000)(q:bytes<=1000) :
 ∃ g c p,(Builtin.append_ #[t,u] ty #[.slice none 0 0,.int .i64 (n:Nat)]).run P w = .ok (.slice (some ⟨g,0,none⟩) n c) p/\Ext w p/\AE p w.heap.size e k (some ⟨g,0,none⟩) 0 c []/\n<=c:=by
 obtain⟨i,s,B,b,j⟩:=a.parts;have y:n*i.bytes<=1000000000:=by rw[j];exact ft (gL x q) (by omega)
 have h1:IntKind.i64.wrap (n:Int)=(n:Int):=fO _ (by omega);have h2:¬ ((n:Int)<0):=by omega
 have h3:¬ ((281474976710656:Int)<(n:Int)*(i.bytes:Int)):=by
  have:((n*i.bytes:Nat):Int)<=1000000000:=by omega
  rw[fU]at this;omega
 have f:¬ (n*i.size=0):=by rw[b];exact Nat.ne_of_gt (jj h0 v)
 have h6:¬ (9223372036854775807<(n:Int)):=by omega
 have h7:Builtin.nextslicecap n 0=n:=nextslicecap_zero h0;have h8:¬ (281474976710656<n*i.bytes):=by omega
 have m:=grownCap_ge w n 0 e;have l:grownCap w n 0 e<=maxLen:=grownCap_le_maxLen w n 0 e (by unfold maxLen;omega);have o:zs.length=k:=a.2.1
 have d:(Builtin.append_ #[t,u] ty #[.slice none 0 0,.int .i64 (n:Nat)]).run P w = .ok (.slice (some ⟨w.heap.size,0,none⟩) n (grownCap w n 0 e))
  (w.drew.alloc (.cells (Builtin.zeroCells zs.toArray n ++ Builtin.zeroCells zs.toArray (grownCap w n 0 e-n)) e)):=by
  simp[Builtin.append_,fT A,fT hu,sizeOf,typeInfo,zeroValue,s,B,asInt,asIntOf,h1,h2,h3,f,h6,h7,h8,Question.forced,newRow,grownCap,Builtin.firstCells,Value.cells];omega
 refine⟨_,_,_,d,((Ext.refl w).drew).alloc _,⟨fun r z=>(by cases z),by simp,.inr ⟨w.heap.size,_,_,rfl,lrf _,kD w.drew _,fu _,l,?_,by simp⟩⟩,m⟩;simp only[Array.size_append,size_zeroCells,List.size_toArray,o,<-ip];congr 1;omega
theorem Pp{x:Operand}(i:o.guard=none)
 (q:o.op = .call { callee := .builtin .append,args:=#[s,x],argTypes:=#[t,u] })
 {e:TypeId} {zs:List Value} {k bytes n:Nat} (v:P.underlying t=some (.slice e)) (hu:P.underlying u=some (.int .i64)) (a:Cq P e zs k bytes) (m:0<k) (r:f.eval s = .slice none 0 0) (y:f.eval x = .int .i64 (n:Nat)) (h0:0<n) (p:n<=1000000) (l:bytes<=1000)
 (h:∀ g c d,Ext w d->AE d w.heap.size e k (some ⟨g,0,none⟩) 0 c []->n<=c->wpList P ops Q rest (f.put o.dst (.slice (some ⟨g,0,none⟩) n c)) d) :
 wpList P ops Q (o :: rest) f w:=by
 refine gI i fun _ j => ?_;obtain⟨g,c,d,b,h2,h3,h4⟩:=Of (P:=P) (w:=w) (ty:=o.type) v hu a m h0 p l;unfold Oper.wp execOp;simp only[q,resolve,invoke,builtin,fC,fQ,fe,iP,gD,iF,r,y,b];exact j _ _ (h g c d h2 h3 h4)
theorem MH(f:P.underlying t=some (.slice e))(b:Cq P e zs k bytes)(d:h<=c) :
 (Instr.sliceAt t (.slice a n c) none (some (.int .i64 h)) none).run P w = .ok (.slice a h c) w:=Ge f b d
theorem MI(h0:0<n)(m:n<=10000):Calls prog 43 #[.slice none 0 0,.int .i64 n] w fun e i=>∃ g c,e = .returned (.slice (some ⟨g,0,none⟩) 0 c)/\Ext w i/\AE i w.heap.size 24 2 (some ⟨g,0,none⟩) 0 c []:=by
 have k:=fun f:World=>MH (P:=prog) (t:=25) (a:=none) (n:=0) (c:=0) (h:=0) (w:=f) underlying25 CY (lrf _);have l:=fun(g c:Nat) (f:World)=>MH (P:=prog) (t:=25) (a:=some ⟨g,0,none⟩) (n:=n) (c:=c) (h:=0) (w:=f) underlying25 CY (fu _)
 go_enter func43,ntmps43
 go_wp2_with(refine Pp rfl rfl underlying25 underlying3 CY (by omega) rfl rfl h0 (by omega) (by omega) ?_;intro g c o b d j)
 go_ret;exact⟨g,c,rfl,b,d⟩
def RwS(w:World)(cells:List Value)(S:List (List (List Value))):Prop:=∀ i,i<S.length->∃ a n c,cells.getD i undef = .slice a n c/\SlK w 2 a n c (S.getD i [])
theorem EI{S:List (List (List Value))}(h:k<S.length):(S.take (k+1)).flatten=(S.take k).flatten ++ S.getD k []:=by
 rw[ff h,List.flatten_append,gqq,eZ h];simp
theorem Kn{S:List (List (List Value))}(hA:Sl w A m cA cells)(hm:S.length=m)(hS:RwS w cells S)(hb:m<=10)(h0:0<S.flatten.length)(X:∀ r∈S,r.length<=100/\∀ x∈r,∀ u∈x,u.oneCell'=true) :
 Calls prog 19 #[.slice A m cA] w fun e w'=>∃ a c,e = .returned (.slice a S.flatten.length c)/\Ext w w'/\AE w' w.heap.size 24 2 a S.flatten.length c S.flatten:=by
 have HS:=qh hS;have p:=qh hm;have HB:=qh X
 have F:∀ k,k<=m->(S.take k).flatten.length<=100*k:=fun k=>by
  induction k with
  | zero=>intro _;simp
  | succ k ih =>
   intro hk;rw[EI (by omega),fo];have h1:=ih (by omega);have h2:=(X (S.getD k []) (by rw[gqq,eZ (by omega)];exact fE _)).1;omega
 have I:=qh F;obtain⟨T,P⟩:∃ t,S.flatten.length=t:=⟨_,rfl⟩;have HT:=qh P;have a0:T<=1000:=by have h1:=F m (lrf _);rw[f9 (by omega),P]at h1;omega
 rw[P]at h0 |-;clear hS hm X F P
 go_enter func19,ntmps19
 go_wp2
 go_loopw[3,11] (fun sv H wr=>∃ (k s:Nat),sv = .int .i64 s/\H = .int .i64 k/\k<=m/\Ext w wr/\Hid (s=(S.take k).flatten.length)/\s<=1000) (fun _ H _=>m-(intOf H).toNat)
 case atStart=>exact⟨0,0,rfl,rfl,fu _,Ext.refl _,qh (by simp),by omega⟩
 case round =>
  obtain⟨k,s,rfl,rfl,hk,K,v,a4⟩:=hrel;by_cases G:k<m
  · have f:=hA.ext K;obtain⟨b9,o9,rfl,n⟩:=f.rd (by omega);have gk:=n k G;obtain⟨a1,z,c1,l,d⟩:=HS.out k (by rw[p.out];exact G);rw[l]at gk;have o:(S.getD k []).length=z:=d.len;have J:Hid (s+z=(S.take (k+1)).flatten.length):=qh (by rw[EI (by rw[p.out];exact G),fo,<-v.out,o]);have Y:s+z<=1000:=by have h1:=I.out (k+1) (by omega);have h2:=J.out;omega
    clear n l d o f v;go_wp2;go_roundw
    case rel=>exact⟨k+1,s+z,by go_num,by go_num,by omega,K,J,Y⟩
    case measure=>simp[intOf];omega
  · have Q:Hid (s=T):=qh (by rw[v.out,f9 (by rw[p.out];omega),HT.out]);clear v;have Z:s=T:=Q.out;subst Z
    go_wp2_with fail
    refine(MI h0 (by omega)).mono ?_;rintro e w1 ⟨g,c,rfl,L,M⟩;have B:=K.trans L;have C:=M.mono K.size;clear M K L;go_wp2
    go_loopw[6,27] (fun ov H wr=>∃ (k E:Nat) (a:Option Addr) (c:Nat),ov = .slice a E c/\H = .int .i64 k/\k<=m/\Ext w wr/\AE wr w.heap.size 24 2 a E c (S.take k).flatten/\Hid (E=(S.take k).flatten.length)) (fun _ H _=>m-(intOf H).toNat)
    case atStart=>exact⟨0,0,_,_,rfl,rfl,fu _,B,by simpa using C,qh (by simp)⟩
    case round =>
     clear C B;obtain⟨y,E,a,c2,rfl,rfl,a2,i,j,q⟩:=hrel;by_cases b:y<m
     · have f:=hA.ext i;obtain⟨b9,o9,rfl,n⟩:=f.rd (by omega);have gk:=n y b;obtain⟨a1,z,c1,l,d⟩:=HS.out y (by rw[p.out];exact b);rw[l]at gk;have o:(S.getD y []).length=z:=d.len;have J:Hid (E+z=(S.take (y+1)).flatten.length):=qh (by rw[EI (by rw[p.out];exact b),fo,<-q.out,o]);have a3:E+z<=1000:=by have h1:=I.out (y+1) (by omega);have h2:=J.out;omega
       have HF:=qh (EI (S:=S) (k:=y) (by rw[p.out];exact b));have D:=(HB.out (S.getD y []) (by rw[gqq,eZ (by rw[p.out];exact b)];exact fE _)).2;have N:=d.ext i;clear n l d o f q
       go_wp2_with(refine TS rfl rfl underlying25 CY rfl j rfl N D (by unfold maxLen;omega) (by omega) i.size ?_;intro a7 c7 w7 U O V)
       have R:=i.grown O (fun g hg=>(j.lt hg).1);clear O V j N D;go_roundw
       case rel=>exact⟨y+1,E+z,a7,c7,rfl,by go_num,by omega,R,by rw[HF.out];exact U,J⟩
       case measure=>simp[intOf];omega
     · have W:E=s:=by have h1:=q.out;rw[f9 (by rw[p.out];omega),HT.out]at h1;exact h1
       rw[f9 (by rw[p.out];omega)]at j;subst W;clear q;go_wp2;go_ret;exact⟨a,c2,rfl,i,j⟩
theorem QEl.mono{w:World}{base b:Nat}{d:List Value}{q:List (List Int)}(h:QEl w base d q)(e:b<=base):QEl w b d q:=fun i f=>by
 obtain⟨a,n,c,h1,h2⟩:=h i f;exact⟨a,n,c,h1,Own.mono h2 e⟩
def Og(l:List Pl.Tm):List Pl.Tm:=l.map (fun t=>(Ab t.1,t.2))
theorem TT(l:List Pl.Tm):(Og l).length=l.length:=fq ..
theorem It{n:Nat}:∀ {l:List Pl.Tm},(∀ t∈l,t.1.length=n)->∀ {e:List Int},e.length=n->Pl.coef (Og l) (Ab e)=Pl.coef l e
 | [],_,_,_=>rfl
 | t :: r,hl,e,he=>by
  have ih:=It (l:=r) (fun s a=>hl s (by simp[a])) he;have h1:(Ab t.1=Ab e)<->t.1=e:=⟨fun h=>Ei ((hl t (by simp)).trans he.symm) h,fun h=>by rw[h]⟩;show(if Ab t.1=Ab e then t.2 else 0)+Pl.coef (Og r) (Ab e)=(if t.1=e then t.2 else 0)+Pl.coef r e;rw[ih];simp only[h1]
def rdU(t:Tx):Pl.Tm:=(t.2,(Bn t.1).getD 0)
theorem Pq{t:Tx}{m:Pl.Tm}(h:A3 vars t=some m):m=(Ab (rdU t).1,(rdU t).2):=by
 obtain⟨h1,_,_,_,h2⟩:=BC h;unfold rdU;rw[h1];exact Prod.ext h2 rfl
theorem JI{ts:List Tx}{l:List Pl.Tm}(h:rdP vars ts=some l):l=Og (ts.map rdU)/\Pl.Canon vars.toNat (ts.map rdU):=by
 obtain⟨n,h1,h2,h3,h4⟩:=CH h;have b:∀ t∈ts,∃ m,A3 vars t=some m:=by
  intro t b;obtain⟨i,c,rfl⟩:=io.1 b;have:=h3.1 i c;rw[gqq,eZ c,fW]at this;exact ja.1 this
 refine⟨?_,?_,?_,?_⟩
 · rw[h4];unfold Og;rw[j4];refine gZ fun t h5 => ?_;obtain⟨m,a⟩:=b t h5;rw[a];exact Pq a
 · intro t h5;obtain⟨s,h6,rfl⟩:=fy.1 h5;obtain⟨m,a⟩:=b s h6;have:=(BC a).2.2.1;show s.2.length=_;omega
 · intro t h5;obtain⟨s,h6,rfl⟩:=fy.1 h5;obtain⟨m,a⟩:=b s h6;obtain⟨d,f,_⟩:=BC a;show(Bn s.1).getD 0≠0;rw[d];exact f
 · refine iV.2 (gt.2 fun i j c k g => ?_);have:=Ip h3.2 (j-i-1) i (by omega);have e:i+(j-i-1)+1=j:=by omega
   rw[e,gqq,gqq,eZ c,eZ k,fW,fW]at this;exact this
theorem TU{o:Nat}(h:Own w b e a n c cs)(i:AE w b' e' k a' o c' rows)(m:e≠e'):blk a=none\/blk a≠blk a':=by
 cases j:blk a with
 | none=>exact .inl rfl
 | some g =>
  refine .inr fun l => ?_;obtain⟨cs,p,h1⟩:=Own.ty h g j;obtain⟨d,f,h2⟩:=i.ty l.symm;rw[h1]at h2;simp only[fc,jm]at h2;exact m h2.2.1
theorem Vg(h:Own w b e a n c cs)(d:Arr w g t ds)(j:e≠t):blk a=none\/blk a≠some g:=by
 cases i:blk a with
 | none=>exact .inl rfl
 | some q =>
  refine .inr fun f => ?_;obtain⟨cs,k,h1⟩:=Own.ty h q i;injection f with f;subst f;unfold Arr at d;rw[h1]at d;simp only[fc,jm]at d;exact j d.2.1
theorem TmO.grow{l:List Tx}{b:List Value}{t:Tx}(g:AE w base 46 2 a n c rows)(j:l.length=n)(p:∀ i,i<n->Jm w base (rows.getD i []) (l.getD i tm0))(v:Jm w base b t)(o:AE w' base 46 2 a' (n+1) c' (rows ++ [b]))(q:w.grownBy w' (blk a)):TmO w' base a' (n+1) c' (l ++ [t]):=by
 have e:∀ {b:List Value} {t:Tx},Jm w base b t->Jm w' base b t:=fun {b t} h=>by
  obtain⟨s,k,x,m,h1,h2,h3⟩:=h;exact⟨s,k,x,m,h1,h2,h3.kept q (TU h3 g (by decide))⟩
 refine⟨_,o,by simp[j],fun i y => ?_⟩;have r:rows.length=n:=g.len (by omega);by_cases f:i<n
 · have h1:(rows ++ [b]).getD i []=rows.getD i []:=by rw[gqq,fj (by omega),<-gqq]
   have h2:(l ++ [t]).getD i tm0=l.getD i tm0:=by rw[gqq,fj (by omega),<-gqq]
   rw[h1,h2];exact e (p i f)
 · have d:i=n:=by omega
   have h1:(rows ++ [b]).getD i []=b:=by rw[gqq,gd (by omega),r,d,jo];rfl
   have h2:(l ++ [t]).getD i tm0=t:=by rw[gqq,gd (by omega),j,d,jo];rfl
   rw[h1,h2];exact e v
theorem TmO.keptU{l:List Tx}(h:TmO w base a n c l)(f:Arr w g t cs)(h1:46≠t)(h2:3≠t)(j:w.grownBy w' (some g)):TmO w' base a n c l:=by
 obtain⟨b,k,x,y⟩:=h;refine⟨b,k.kept j ?_,x,fun i v => ?_⟩
 · cases d:blk a with
   | none=>exact .inl rfl
   | some q=>exact .inr fun he=>k.ne f h1 (by rw[d,he])
 · obtain⟨s,m,z,o,p,r,e⟩:=y i v;exact⟨s,m,z,o,p,r,e.kept j (Vg e f h2)⟩
theorem okT.step{ts:List Tx}(h:okT vars ts k)(h1:(A3 vars (ts.getD k tm0)).isSome=true)(h2:∀ j,k=j+1->0<Pl.ordE (ts.getD j tm0).2 (ts.getD (j+1) tm0).2):okT vars ts (k+1):=by
 refine⟨fun i b => ?_,fun i b => ?_⟩
 · by_cases a:i<k
   · exact h.1 i a
   · have:i=k:=by omega
     subst this;exact h1
 · by_cases a:i+1<k
   · exact h.2 i a
   · exact h2 i (by omega)
theorem Pr(a:o.op = .alloc 52)(b:Operand->Value)(w:World):(execOp b o).run prog w = .ok (.value (.pointer (some ⟨w.heap.size,0,none⟩))) (w.alloc (.cells [.slice none 0 0].toArray 52)):=by
 simp only[execOp,a];kernel_rfl
theorem EH.keptC{j:Nat}{L:List PLs}(h:EH w j n L)(d:Arr w g t cs)(h1:57≠t)(h2:101≠t)(h3:100≠t)(h4:95≠t)(h5:93≠t)(f:w.grownBy w' (some g)):EH w' j n L:=by
 obtain⟨b,M,p,a,c,q,m,hF,o⟩:=h;refine⟨b,M,p,a,c,q,m,⟨hF.fwl,hF.fwn,hF.fwa.kept f (fun e => ?_),hF.fwr,hF.fwo.kept f (AK hF.fwo d h4),hF.fwm.kept d h4 f,hF.fwd,fun i k=>(hF.fwp i k).kept d h1 h2 (fun e => ?_) f,hF.fwb,hF.fwc⟩,o⟩
 · have:=fD e;subst this;exact h5 (Km hF.fwa d)
 · obtain⟨r,s,x,v,y,l,_⟩:=hF.fwp i k;rw[e]at l;exact h3 (Km l d)
def TV(v:Value)(w:World)(n:Nat)(L0 L1 L2:List PLs):Prop:=∃ sB f1 f2 f3,v = .slice (some ⟨sB,0,none⟩) 3 3/\Arr w sB 50 [.pointer (some ⟨f1,0,none⟩),.pointer (some ⟨f2,0,none⟩),.pointer (some ⟨f3,0,none⟩)]/\EH w f1 n L0/\EH w f2 n L1/\EH w f3 n L2
theorem TV.x(n:Nat)(a b c:List PLs):∀ (v:Value) (w d:World),Ext w d->TV v w n a b c->TV v d n a b c:=fun _ _ _ e ⟨s,f,g,i,h1,h2,h3,h4,h5⟩=>⟨s,f,g,i,h1,h2.ext e,h3.ext e,h4.ext e,h5.ext e⟩
def unR(ts:List Tx):PLs:=ts.map rdU
open Classical in
noncomputable def autR (va:Int) (ts:List Tx) (ps qs:List (Int×List Tx)):List (List Int)×Int :=
 if ∀ p∈(va,ts) :: (ps ++ qs),(rdP p.1 p.2).isSome=true then if ∀ p∈(va,ts) :: (ps ++ qs),p.1=va then(autL va.toNat [[unR ts],ps.map fun p=>unR p.2,qs.map fun p=>unR p.2],0)else([],4)else([],1)
theorem Ps{ts:List Tx}(h:(rdP va ts).isSome=true):Pl.Canon va.toNat (unR ts)/\ts=(unR ts).map fun t=>(txt t.2,t.1):=by
 obtain⟨l,b⟩:=ja.1 h;refine⟨(JI b).2,?_⟩;unfold unR;rw[j4];refine(List.map_id ts).symm.trans (gZ fun t c => ?_);obtain⟨i,a,rfl⟩:=gK c;have h1:=(BC (J8 b a)).1;have e:ts.getD i tm0=ts[i]:=by simp[a]
 rw[e]at h1;show ts[i]=(txt ((Bn ts[i].1).getD 0),ts[i].2);rw[h1];exact Prod.ext (Ie h1) rfl
def PRw(w:World)(rows:List (List Value))(P:List (Int×List Tx)):Prop:=rows.length=P.length/\∀ i,i<P.length->∃ A m d,rows.getD i []=AF (P.getD i pz).1 A m d/\CP w A m d (P.getD i pz).2
theorem PRw.app{s:List (List Value)}{P Q:List (Int×List Tx)}(h:PRw w r P)(k:PRw w s Q):PRw w (r ++ s) (P ++ Q):=by
 refine⟨by rw[fo,fo,h.1,k.1],fun i d => ?_⟩;rw[fo]at d;by_cases a:i<P.length
 · have b:(r ++ s).getD i []=r.getD i []:=by simp[fj,h.1,a]
   have c:(P ++ Q).getD i pz=P.getD i pz:=by simp[fj,a]
   rw[b,c];exact h.2 i a
 · have b:(r ++ s).getD i []=s.getD (i-P.length) []:=by rw[gqq,gd (by rw[h.1];omega),h.1,<-gqq]
   have c:(P ++ Q).getD i pz=Q.getD (i-P.length) pz:=by rw[gqq,gd (by omega),<-gqq]
   rw[b,c];exact k.2 _ (by omega)
theorem PRw.ext{w a:World}{r:List (List Value)}{P:List (Int×List Tx)}(h:PRw w r P)(e:Ext w a):PRw a r P:=⟨h.1,fun i b=>by obtain⟨A,m,d,h1,h2⟩:=h.2 i b;exact⟨A,m,d,h1,h2.ext e⟩⟩
theorem PRw.one_{P:List (Int×List Tx)}(h:PRw w r P):∀ x∈r,∀ u∈x,u.oneCell'=true:=fun x b=>by
 obtain⟨i,a,rfl⟩:=gK b;obtain⟨A,m,d,h1,_⟩:=h.2 i (by have:=h.1;omega);have e:r.getD i []=r[i]:=by simp[a]
 rw[e]at h1;rw[h1];exact AW _ _ _ _
theorem CZ{N:Nat}{qs:List (Int×List Tx)}(h:PSl w a n c qs)(j:∀ p∈qs,p.1=(N:Int)/\(rdP p.1 p.2).isSome=true/\p.2.length<=100/\∀ t∈p.2,t.1.length<=570)(y:N<=6)(B:n<=100) :
 Calls prog 20 #[.int .i64 N,.slice a n c] w fun e g=>∃ f,e = .returned (.pointer (some ⟨f,0,none⟩))/\Ext w g/\EH g f N (qs.map fun p=>unR p.2):=by
 have A:qs.length=n:=by obtain⟨k,_,h1,_⟩:=h;exact h1
 have hu:∀ p∈qs,Pl.Canon N (unR p.2)/\p.2=(unR p.2).map fun t=>(txt t.2,t.1):=fun p hp=>by
  obtain⟨h1,h2,_⟩:=j p hp;have h3:=Ps h2;rw[h1]at h3;exact h3
 refine(Jo (L:=qs.map fun p=>unR p.2) h (by rw[fq,A]) (fun i F => ?_) (fun x d => ?_) (fun x d => ?_) y B).mono ?_
 · have b:i<qs.length:=by omega
   have o:qs.getD i pz=qs[i]:=by simp[b]
   have q:(qs.map fun p=>unR p.2).getD i []=unR qs[i].2:=by simp[b]
   rw[o,q];exact(hu _ (fE _)).2
 · obtain⟨p,hp,rfl⟩:=fy.1 d;exact(hu p hp).1
 · obtain⟨p,hp,rfl⟩:=fy.1 d;obtain⟨_,_,h3,h4⟩:=j p hp;refine⟨by unfold unR;rw[fq];exact h3,fun t C => ?_⟩;have h5:(txt t.2,t.1)∈p.2:=by rw[(hu p hp).2];exact fy.2 ⟨t,C,rfl⟩
   have:=h4 _ h5;simp only at this;omega
 · rintro e g ⟨r,M,D,l,m,E,s,rfl,v,hF,z⟩;exact⟨r,rfl,v,_,M,D,l,m,E,s,hF,z⟩
theorem SlK.preA(h1:SlK w k a n c rows)(f:h<=n):SlK w k a h c (rows.take h) :=
 ⟨by rw[go,h1.len,jf f],ft f h1.cap,h1.max,fun r d=>h1.wid r (im d),fun h0=>by
  obtain⟨b,e,g,l⟩:=h1.rd (by omega);refine⟨b,e,g,fun i m j o => ?_⟩;have d:(rows.take h).getD i []=rows.getD i []:=by rw[gqq,my m,<-gqq]
  rw[l i (by omega) j o,d]⟩
theorem Vh{s:Nat}{x:List Value}(C:w0.heap.size=s)(A:x.length=2)(m:∀ u∈x,u.oneCell'=true)(h1:SlK w0 2 a1 n1 c1 R1)(h2:SlK w0 2 a2 n2 c2 R2)(F:n1<=10)(G:n2<=10)(D:∀ x∈R1,∀ u∈x,u.oneCell'=true)(E:∀ x∈R2,∀ u∈x,u.oneCell'=true) :
 Calls prog 19 #[.slice (some ⟨s+1,0,none⟩) 3 3] ((w0.alloc (.cells x.toArray 24)).alloc (.cells #[.slice (some ⟨s,0,none⟩) 1 1,.slice a1 n1 c1,.slice a2 n2 c2] 25)) fun e n=>∃ a c,e = .returned (.slice a (1+(n1+n2)) c)/\Ext w0 n/\SlK n 2 a (1+(n1+n2)) c (x :: (R1 ++ R2)):=by
 subst C;have o:=Arr.new (w0.alloc (.cells x.toArray 24)) 25 [.slice (some ⟨w0.heap.size,0,none⟩) 1 1,.slice a1 n1 c1,.slice a2 n2 c2];have w:=Arr.new w0 24 x;have q:Ext w0 (w0.alloc (.cells x.toArray 24)):=(Ext.refl w0).alloc _;have f:=q.alloc (.cells [.slice (some ⟨w0.heap.size,0,none⟩) 1 1,.slice a1 n1 c1,.slice a2 n2 c2].toArray 25);have t:Ext (w0.alloc (.cells x.toArray 24)) _:=(Ext.refl _).alloc (.cells [.slice (some ⟨w0.heap.size,0,none⟩) 1 1,.slice a1 n1 c1,.slice a2 n2 c2].toArray 25);rw[show(w0.alloc (.cells x.toArray 24)).heap.size=w0.heap.size+1 by simp]at o
 have j:=h1.len;have l:=h2.len;have b:[[x],R1,R2].flatten=x :: (R1 ++ R2):=by simp
 have d:[[x],R1,R2].flatten.length=1+(n1+n2):=by rw[b,fP,fo,j,l];omega
 refine(Kn (S:=[[x],R1,R2]) (o.sl (k:=3) (lrf _) (by unfold maxLen;simp)) rfl (fun i z => ?_) (by omega) (by rw[d];omega) (fun r p => ?_)).mono ?_
 · match i,z with
   | 0,_=>exact⟨_,_,_,rfl,(Ey w A).ext t⟩
   | 1,_=>exact⟨_,_,_,rfl,h1.ext f⟩
   | 2,_=>exact⟨_,_,_,rfl,h2.ext f⟩
 · simp only[fV,ib,kx]at p;rcases p with rfl|rfl|rfl
   · exact⟨by simp,fun y B=>by rw[fi.1 B];exact m⟩
   · exact⟨by omega,D⟩
   · exact⟨by omega,E⟩
 · rintro e n ⟨a,c,rfl,v,g⟩;rw[d]at g |-;rw[b]at g;exact⟨a,c,rfl,f.trans v,g.slk (by omega)⟩
theorem LW.err(h:Ext w w'):LW w [] er (.returned (.tuple #[.slice none 0 0,.int .i64 er])) w':=⟨none,0,0,[],rfl,h,rfl,Own.nil _ _ _,fun i a=>absurd a (by simp)⟩
theorem F6{ts:List Tx}{ps qs:List (Int×List Tx)}(hT:Bk w)(hp:CP w a m c ts)(h1:PSl w a1 n1 c1 ps)(h2:PSl w a2 n2 c2 qs)(sp:∀ p∈(va,ts) :: (ps ++ qs),p.2.length<=100/\∀ t∈p.2,t.1.length<=570)(b1:n1<=10)(b2:n2<=10)(hv:va<=4\/6<va) :
 Calls prog 8 #[.agg #[.int .i64 va,.slice a m c],.slice a1 n1 c1,.slice a2 n2 c2] w (LW w (autR va ts ps qs).1 (autR va ts ps qs).2):=by
 obtain⟨R1,aH,bH,aT⟩:=h1;obtain⟨R2,aI,bI,aU⟩:=h2;have aF:PRw w R1 ps:=⟨by have:=aH.len;omega,fun i J=>aT i (by omega)⟩;have aG:PRw w R2 qs:=⟨by have:=aI.len;omega,fun i J=>aU i (by omega)⟩
 have aE:PRw w [AF va a m c] [(va,ts)]:=⟨rfl,fun i J=>by
  have:i=0:=by simpa using J
  subst this
  exact⟨a,m,c,rfl,hp⟩⟩
 have bA:PRw w ([AF va a m c] ++ (R1 ++ R2)) ((va,ts) :: (ps ++ qs)):=aE.app (aF.app aG);have HR:=qh bA;have D:=qh (And.intro (And.intro aH (And.intro bH aT)) (And.intro aI (And.intro bI aU)));have bk:=qh (And.intro aE.one_ (And.intro aF.one_ aG.one_));have bn:=qh sp;have HT:=qh hT;have c4:=qh hp;obtain⟨rs,aV⟩:∃ r,autR va ts ps qs=r:=⟨_,rfl⟩;have an:=qh aV;rw[aV];have bU:R1.length=n1:=aH.len;have bV:R2.length=n2:=aI.len;clear aE aF aG bA bH aT bI aU sp hT hp aV
 go_enter func8,ntmps8
 go_upto_region 1 with(fail)
 refine Bv ?_;intro w0 af aA bN;have p0:=aA.c 0 rfl;have p1:=aA.c 1 rfl;clear aA
 go_wp2_with fail
 have aO:=qh (Vh (x:=AF va a m c) bN rfl (AW _ _ _ _) (D.out.1.1.ext af) (D.out.2.1.ext af) b1 b2 bk.out.2.1 bk.out.2.2);obtain⟨P,hP⟩:∃ P,(va,ts) :: (ps ++ qs)=P:=⟨_,rfl⟩;obtain⟨R,hR⟩:∃ R,AF va a m c :: (R1 ++ R2)=R:=⟨_,rfl⟩;obtain⟨T,aM⟩:∃ T,1+(n1+n2)=T:=⟨_,rfl⟩;have HP:=qh hP;have c0:=qh hR;have cv:=qh aM;have aL:1<=T:=by omega
 have ce:T<=21:=by omega
 have bz:P.length=T:=by rw[<-hP,fP,fo,D.out.1.2.1,D.out.2.2.1];omega
 have bm:Hid (PRw w R P):=qh (by have h1:=HR.out;rw[List.singleton_append,hR,hP]at h1;exact h1);have b0:Hid (∀ p∈P,p.2.length<=100/\∀ t∈p.2,t.1.length<=570):=qh (by rw[<-hP];exact bn.out);have O:=qh bz;rw[aM,hR]at aO;clear hP hR aM bz HR bn p1;refine aO.out.mono ?_;rintro e w3 ⟨aa,cc,rfl,aB,aK⟩;have s:=af.trans aB;have p3:=aB.cell p0;clear aO bN p0 af aB;go_wp2
 go_loopw[25] (fun iv wr=>∃ (k:Nat),iv = .int .i64 k/\k<=T/\Ext w3 wr/\Hid (∀ j,j<k->(rdP (P.getD j pz).1 (P.getD j pz).2).isSome=true)) (fun iv _=>T-(intOf iv).toNat)
 case atStart=>exact⟨0,rfl,fu _,Ext.refl _,qh fun j hj=>absurd hj (by omega)⟩
 case round =>
  obtain⟨k,rfl,hk,I,HV⟩:=hrel;by_cases F:k<T
  · have Y:=aK.ext I;obtain⟨bq,cs,rfl,a4⟩:=Y.rd (by omega);obtain⟨A,m',d,B,a9⟩:=bm.out.2 k (by rw[O.out];exact F);have hY:=Arr.new wr 24 (AF 0 none 0 0);obtain⟨v',Z⟩:∃ v,(P.getD k pz).1=v:=⟨_,rfl⟩;obtain⟨t',aX⟩:∃ t,(P.getD k pz).2=t:=⟨_,rfl⟩;have aW:=b0.out (P.getD k pz) (by rw[gqq,eZ (by rw[O.out];exact F)];exact fE _);rw[Z]at B;rw[aX]at a9 aW;have Q:=qh (And.intro Z aX);have a0:=qh aW;clear a4 Z aX aW
    go_upto_region 5 with(first
     | (refine Dz rfl rfl Ax rfl Y F ?_;rw[B])
     | (refine Aa (vs:=AF v' A m' d) rfl rfl rfl rfl rfl Ax hY rfl (AW _ _ _ _) ?_;intro w5 H ab))
    have S:Ext wr w5:=((Ext.refl wr).alloc _).grownR ab (lrf _);obtain⟨X,hX⟩:∃ x,wr.heap.size=x:=⟨_,rfl⟩;rw[hX]at H |-;have y0:=H.c 0 rfl;have y1:=H.c 1 rfl;have y:=I.trans S;have bK:=qh (Gs (vars:=v') (HT.out.ext (s.trans y)) (a9.ext (s.trans y)) a0.out.2);clear hY ab B Y a9 hX H S I
    go_wp2_with fail
    refine bK.out.mono ?_;rintro e w6 ⟨rfl,bp⟩;have b5:=y.trans bp;clear bK y bp y0 y1;obtain⟨b,hb⟩:∃ b,(rdP v' t').isSome=b:=⟨_,rfl⟩;rw[hb];have HB:=qh hb;clear hb;cases b with
    | false =>
     have HZ:Hid (rs=([],1)):=qh (by
      rw[<-an.out];unfold autR;rw[fl];intro h;rw[HP.out]at h;have h1:=h (P.getD k pz) (by rw[gqq,eZ (by rw[O.out];exact F)];exact fE _);rw[Q.out.1,Q.out.2,HB.out]at h1
      cases h1)
     go_wp2
     go_ret2
     rw[HZ.out];exact LW.err (s.trans b5)
    | true =>
     have ax:Hid (∀ j,j<k+1->(rdP (P.getD j pz).1 (P.getD j pz).2).isSome=true):=qh (fun j hj=>by
      by_cases aQ:j<k
      · exact HV.out j aQ
      · have:j=k:=by omega
        subst this;rw[Q.out.1,Q.out.2]
        exact HB.out)
     go_wp2;go_roundw
     case rel=>exact⟨k+1,by go_num,by omega,b5,ax⟩
     case measure=>simp[intOf];omega
  have aR:k=T:=by omega
  subst aR
  have a3:Hid (∀ p∈P,(rdP p.1 p.2).isSome=true):=qh (fun p hp=>by
   obtain⟨j,hj,rfl⟩:=gK hp;have h1:=HV.out j (by rw[<-O.out];exact hj);rw[gqq,eZ hj]at h1
   exact h1)
  have cm:∃ n:Nat,va=(n:Int):=by
   have h1:=a3.out (va,ts) (by rw[<-HP.out];exact List.mem_cons_self ..);obtain⟨l,hl⟩:=ja.1 h1;exact⟨va.toNat,by have:=(Nz hl).1;omega⟩
  have cl:va<=6:=by
   have h1:=a3.out (va,ts) (by rw[<-HP.out];exact List.mem_cons_self ..);obtain⟨l,hl⟩:=ja.1 h1;exact(Nz hl).2
  obtain⟨n,rfl⟩:=cm;have cB:n<=4:=by omega
  have E:n<=6:=by omega
  have aD:=s.trans I;have bB:=aK.ext I;have p4:=I.cell p3;clear HV hk p3 aK s I hv cl;generalize cn:wr=w4 at *
  clear cn
  go_upto_region 9 with(fail)
  obtain⟨nB,au⟩:∃ n,w4.heap.size=n:=⟨_,rfl⟩;have K:=Arr.new w4 3 [.int .i64 (n:Int)];have aN:=(Ext.refl w4).alloc (.cells [.int .i64 (n:Int)].toArray 3);rw[au]at K |-;have cp:w.heap.size<=nB:=by rw[<-au];exact aD.size
  have bX:=K.lt;clear p4 au;generalize w4.alloc (.cells [.int .i64 (n:Int)].toArray 3)=w7 at *
  change Code.wp _ _ _ _ w7;have U:=aD.trans aN;have ak:=bB.ext aN;have nc:=K.c 0 rfl;clear aD bB aN;go_wp2
  go_loopw[37] (fun iv wr=>∃ (k2:Nat),iv = .int .i64 k2/\k2<=k/\Ext w7 wr/\Hid (∀ j,j<k2->(P.getD j pz).1=(n:Int))) (fun iv _=>k-(intOf iv).toNat)
  case atStart=>exact⟨0,rfl,fu _,Ext.refl _,qh fun j hj=>absurd hj (by omega)⟩
  case round =>
   obtain⟨k2,rfl,hk,I,HV⟩:=hrel;by_cases F:k2<k
   · have Y:=ak.ext I;obtain⟨bq,cs,rfl,a4⟩:=Y.rd (by omega);obtain⟨A,m',d,B,a9⟩:=bm.out.2 k2 (by rw[O.out];exact F);have hY:=Arr.new wr 24 (AF 0 none 0 0);obtain⟨v',Z⟩:∃ v,(P.getD k2 pz).1=v:=⟨_,rfl⟩;rw[Z]at B;have Q:=qh Z;clear a4 Z a9
     go_upto_region 12 with(first
      | (refine Dz rfl rfl Ax rfl Y F ?_;rw[B])
      | (refine Aa (vs:=AF v' A m' d) rfl rfl rfl rfl rfl Ax hY rfl (AW _ _ _ _) ?_;intro w5 H ab))
     have S:Ext wr w5:=((Ext.refl wr).alloc _).grownR ab (lrf _);obtain⟨X,hX⟩:∃ x,wr.heap.size=x:=⟨_,rfl⟩;rw[hX]at H |-;have y0:=H.c 0 rfl;have y:=I.trans S;have n5:=y.cell nc;clear hY ab B Y hX H S I;by_cases am:v'=(n:Int)
     · have ax:Hid (∀ j,j<k2+1->(P.getD j pz).1=(n:Int)):=qh (fun j hj=>by
        by_cases aQ:j<k2
        · exact HV.out j aQ
        · have:j=k2:=by omega
          subst this;rw[Q.out]
          exact am)
       have bR:(v' != (n:Int))=false:=by simpa using am
       go_wp2;go_roundw
       case rel=>exact⟨k2+1,by go_num,by omega,y,ax⟩
       case measure=>simp[intOf];omega
     · have HZ:Hid (rs=([],4)):=qh (by
        rw[<-an.out];unfold autR;rw[HP.out,fG a3.out,fl];intro h;have h1:=h (P.getD k2 pz) (by rw[gqq,eZ (by rw[O.out];exact F)];exact fE _);rw[Q.out]at h1
        exact am h1)
       have bR:(v' != (n:Int))=true:=by simpa using am
       go_wp2
       go_ret2
       rw[HZ.out];exact LW.err (U.trans y)
   have aR:k2=k:=by omega
   subst aR
   have ay:Hid (∀ p∈P,p.1=(n:Int)):=qh (fun p hp=>by
    obtain⟨j,hj,rfl⟩:=gK hp;have h1:=HV.out j (by rw[<-O.out];exact hj);rw[gqq,eZ hj]at h1
    exact h1)
   have bZ:=qh (And.intro U (And.intro K ak));have aJ:=ak.ext I;have W:=U.trans I;have aS:=K.ext I;have bO:=I.cell nc;have cq:=I.size;clear HV hk I U K ak nc bZ;have bW:nB<wr.heap.size:=by have:=aS.lt;omega
   generalize co:wr=w8 at *
   clear co;rename_i cu;obtain⟨L1,ai⟩:∃ L,ps.map (fun p=>unR p.2)=L:=⟨_,rfl⟩;obtain⟨L2,aj⟩:∃ L,qs.map (fun p=>unR p.2)=L:=⟨_,rfl⟩
   have c3:Hid (rs=(autL n [[unR ts],L1,L2],0)):=qh (by
    rw[<-an.out];unfold autR
    rw[HP.out,fG a3.out,fG ay.out,ai,aj,ix])
   have aw:Hid (∀ p∈P,Pl.Canon n (unR p.2)):=qh (fun p hp=>by
    have h1:=(Ps (a3.out p hp)).1;rw[ay.out p hp,ix]at h1
    exact h1)
   have bY:Hid (∀ L∈[[unR ts],L1,L2],N5 n L):=qh (fun L hL x hx=>by
    simp only[fV,ib,kx]at hL;rcases hL with rfl|rfl|rfl
    · rw[fi.1 hx];exact aw.out ((n:Int),ts) (by rw[<-HP.out];exact List.mem_cons_self ..)
    · rw[<-ai]at hx;obtain⟨p,hp,rfl⟩:=fy.1 hx;exact aw.out p (by rw[<-HP.out];exact jS _ (List.mem_append_left _ hp))
    · rw[<-aj]at hx;obtain⟨p,hp,rfl⟩:=fy.1 hx
      exact aw.out p (by rw[<-HP.out];exact jS _ (List.mem_append_right _ hp)))
   have hq:∀ p∈P,p.1=(n:Int)/\(rdP p.1 p.2).isSome=true/\p.2.length<=100/\∀ t∈p.2,t.1.length<=570:=fun p hp=>⟨ay.out p hp,a3.out p hp,b0.out p hp⟩
   have bg:Hid (∀ o,Ext w8 o->Calls prog 20 #[.int .i64 n,.slice aa 1 cc] o fun e N=>∃ f,e = .returned (.pointer (some ⟨f,0,none⟩))/\Ext o N/\EH N f n [unR ts]):=qh (fun o C=>by
    refine CZ (qs:=[((n:Int),ts)]) ⟨_,(aJ.preA aL).ext C,rfl,fun i J => ?_⟩ (fun p hp => ?_) E (by omega)
    · have:i=0:=by omega
      subst this;exact⟨a,m,c,by rw[<-c0.out];rfl,c4.out.ext (W.trans C)⟩
    · rw[fi.1 hp]
      exact hq _ (by rw[<-HP.out];exact List.mem_cons_self ..))
   have bh:Hid (∀ o,Ext w8 o->Calls prog 20 #[.int .i64 n,.slice a1 n1 c1] o fun e N=>∃ f,e = .returned (.pointer (some ⟨f,0,none⟩))/\Ext o N/\EH N f n L1):=qh (fun o C=>by
    rw[<-ai]
    exact CZ ⟨R1,D.out.1.1.ext (W.trans C),D.out.1.2.1,fun i J=>by obtain⟨A,mm,d,g1,g2⟩:=D.out.1.2.2 i J;exact⟨A,mm,d,g1,g2.ext (W.trans C)⟩⟩ (fun p hp=>hq p (by rw[<-HP.out];exact jS _ (List.mem_append_left _ hp))) E (by omega))
   have bi:Hid (∀ o,Ext w8 o->Calls prog 20 #[.int .i64 n,.slice a2 n2 c2] o fun e N=>∃ f,e = .returned (.pointer (some ⟨f,0,none⟩))/\Ext o N/\EH N f n L2):=qh (fun o C=>by
    rw[<-aj]
    exact CZ ⟨R2,D.out.2.1.ext (W.trans C),D.out.2.2.1,fun i J=>by obtain⟨A,mm,d,g1,g2⟩:=D.out.2.2.2 i J;exact⟨A,mm,d,g1,g2.ext (W.trans C)⟩⟩ (fun p hp=>hq p (by rw[<-HP.out];exact jS _ (List.mem_append_right _ hp))) E (by omega))
   have ck:=fun o:World=>MH (P:=prog) (t:=25) (a:=aa) (n:=k2) (c:=cc) (h:=1) (w:=o) underlying25 CY (ft aL aJ.cap);have U:=W;have K:=aS;have nc:=bO;clear hq ai aj W aS bO ce b1 b2 bU bV cp bX F cq
   go_wp2_with fail
   refine Ad
    [hdI n,hdS aa k2 cc,hdS aa 1 cc,hp (fun v o=>∃ f,v = .pointer (some ⟨f,0,none⟩)/\EH o f n [unR ts]),hdI n,hdS a1 n1 c1,hp (fun v o=>∃ f,v = .pointer (some ⟨f,0,none⟩)/\EH o f n L1),hdI n,hdS a2 n2 c2,hp (fun v o=>∃ f,v = .pointer (some ⟨f,0,none⟩)/\EH o f n L2),hp (fun v o=>TV v o n [unR ts] L1 L2),hp (fun v o=>∃ g,v = .pointer (some ⟨g,0,none⟩)/\w8.heap.size<=g/\Arr o g 52 [.slice none 0 0])]
    ⟨fun v w N e ⟨f,h1,h2⟩=>⟨f,h1,h2.ext e⟩,fun v w N e ⟨f,h1,h2⟩=>⟨f,h1,h2.ext e⟩,fun v w N e ⟨f,h1,h2⟩=>⟨f,h1,h2.ext e⟩,TV.x _ _ _ _,fun v w N e ⟨g,h1,h2,h3⟩=>⟨g,h1,h2,h3.ext e⟩,trivial⟩ ⟨?o0,?o1,?o2,?o3,?o4,?o5,?o6,?o7,?o8,?o9,?o10,?o11,trivial⟩ ?fin
   case o0 | o4 | o7=>exact ol
   case o1 | o5 | o8=>exact omv
   case o2 =>
    exact Lc (h:=1) rfl rfl underlying25 CY (fun _ _ hp h=>⟨h.1,hp.const _⟩) (ft aL aJ.cap)
   case o3 =>
    refine Ai rfl fun ρ o C ao aP h => ?_;have e1:_=_:=h.2.1;have e2:_=_:=h.2.2.1;refine⟨20,#[.int .i64 (n:Int),.slice aa 1 cc],by go_simp,((bg.out o C)).mono ?_⟩;rintro e N ⟨f,rfl,a6,a8⟩;exact⟨_,rfl,a6,f,rfl,a8⟩
   case o6 =>
    refine Ai rfl fun ρ o C ao aP h => ?_;have e1:_=_:=h.2.1;have e2:_=_:=h.2.2.1;refine⟨20,#[.int .i64 (n:Int),.slice a1 n1 c1],by go_simp,((bh.out o C)).mono ?_⟩;rintro e N ⟨f,rfl,a6,a8⟩;exact⟨_,rfl,a6,f,rfl,a8⟩
   case o9 =>
    refine Ai rfl fun ρ o C ao aP h => ?_;have e1:_=_:=h.2.1;have e2:_=_:=h.2.2.1;refine⟨20,#[.int .i64 (n:Int),.slice a2 n2 c2],by go_simp,((bi.out o C)).mono ?_⟩;rintro e N ⟨f,rfl,a6,a8⟩;exact⟨_,rfl,a6,f,rfl,a8⟩
   case o10 =>
    refine Bj rfl ?_;intro ρ o hp C h;have ao:=hp.const;have aP:=hp.func;obtain⟨v0,e0,f0,rfl,i0⟩:=h.1;obtain⟨v1,e1,f1,rfl,i1⟩:=h.2.1;obtain⟨v2,e2,f2,rfl,i2⟩:=h.2.2.1;have kn:=C.cell nc;exact⟨.slice (some ⟨o.heap.size,0,none⟩) 3 3,o.alloc (.cells #[.pointer (some ⟨f0,0,none⟩),.pointer (some ⟨f1,0,none⟩),.pointer (some ⟨f2,0,none⟩)] 50),by go_simp,(Ext.refl _).alloc _,_,f0,f1,f2,rfl,Arr.new _ _ [.pointer (some ⟨f0,0,none⟩),.pointer (some ⟨f1,0,none⟩),.pointer (some ⟨f2,0,none⟩)],i0.ext ((Ext.refl _).alloc _),i1.ext ((Ext.refl _).alloc _),i2.ext ((Ext.refl _).alloc _)⟩
   case o11 =>
    exact Bj rfl fun ρ o _ C _=>⟨_,_,Pr rfl ρ o,(Ext.refl o).alloc _,o.heap.size,rfl,C.size,Arr.new o _ _⟩
   case fin =>
    intro o C;rintro _ ⟨f1,rfl,c7⟩;rintro _ ⟨f2,rfl,c8⟩;rintro _ ⟨f3,rfl,c9⟩;rintro _ b9;rintro _ hA11;change wpList _ _ _ _ _ _;simp only[CB];have cd:=b9;obtain⟨sB,g1,g2,g3,rfl,ae,br,bs,bt⟩:=cd;obtain⟨fB,rfl,cz,G⟩:=hA11;have f0:=G.c 0 rfl;have ci:=G.frozen 0
    go_upto_region 16 with(fail)
    have z:=Aj o fB 0 (.slice (some ⟨sB,0,none⟩) 3 3);have bL:sB≠fB:=fun e=>by rw[e]at ae;exact absurd (Km ae G) (by decide)
    have bb:Arr (o.setCell ⟨fB,0,none⟩ (.slice (some ⟨sB,0,none⟩) 3 3)) fB 52 [.slice (some ⟨sB,0,none⟩) 3 3]:=G.set 0 _;have b3:=ae.kept z (fun e=>bL (fD e));have b6:=br.keptC G (by decide) (by decide) (by decide) (by decide) (by decide) z;have b7:=bs.keptC G (by decide) (by decide) (by decide) (by decide) (by decide) z;have b8:=bt.keptC G (by decide) (by decide) (by decide) (by decide) (by decide) z
    have b4:Ext w (o.setCell ⟨fB,0,none⟩ (.slice (some ⟨sB,0,none⟩) 3 3)):=(U.trans C).grown z (fun g hg=>by have h1:=fD hg;have h2:=U.size;omega);have ar:=(K.ext C).kept z (fun e=>by have h1:=fD e;rw[h1]at bW;omega);clear c7 c8 c9 b9 f0 ci z ae br bs bt G C nc ck bg bh bi;generalize o.setCell ⟨fB,0,none⟩ (.slice (some ⟨sB,0,none⟩) 3 3)=w0 at *
    have bD:∀ i,i<3->w0.cell? ⟨sB,i,none⟩=some (.pointer (some ⟨([g1,g2,g3]:List Nat).getD i 0,0,none⟩)):=fun i J=>by
     have h1:=b3.cell (i:=i) (by simpa using J);rw[h1]
     match i,J with
     | 0,_=>rfl
     | 1,_=>rfl
     | 2,_=>rfl
    have bE:∀ i,i<3->EH w0 (([g1,g2,g3]:List Nat).getD i 0) n (([[unR ts],L1,L2]:List (List PLs)).getD i []):=fun i J=>by
     match i,J with
     | 0,_=>exact b6
     | 1,_=>exact b7
     | 2,_=>exact b8
    have n0:=ar.c 0 rfl;have a0:=qh (And.intro bb (And.intro bD (And.intro bE ar)));clear bb b3 b6 b7 b8 bD bE ar bL
    go_upto_region 17 with(fail)
    refine Bv ?_;intro w1 ah bF cr;have a4:=qh (Cd (gs:=[]) (ag:=none) (ng:=0) (cg:=0) (n:=n) (w:=w1) ⟨rfl,[],Sl.nil w1,fun i J=>absurd J (by omega)⟩ E (fun g hg=>by cases hg));have n1:=ah.cell n0
    go_wp2_with fail
    refine a4.out.mono ?_;rintro e w2 ⟨r,L,rfl,a7,_,bw,bf,bj⟩;have aZ:=qh (And.intro bf bj);have n2:=a7.cell n1;have ap:=bF.ext a7;clear a4 bf bj n1;have cA:∀ (fn:Fn) (first bo:Array Value) (w:World),(Instr.makeFunc fn first bo).run prog w = .ok (.func fn first bo) w:=fun _ _ _ _=>rfl
    go_upto_region 18 with(fail)
    have aq:=Arr.new w2 53 [.map (some r)];have al:=(Ext.refl w2).alloc (.cells [.map (some r)].toArray 53);obtain⟨kB,bG⟩:∃ k,w2.heap.size=k:=⟨_,rfl⟩;rw[bG]at aq |-;generalize w2.alloc (.cells [.map (some r)].toArray 53)=w3 at *
    change Code.wp _ _ _ _ w3;obtain⟨gB,bd⟩:∃ g,w0.heap.size=g:=⟨_,rfl⟩;rw[bd]at ap |-;have s:Ext w0 w3:=(ah.trans a7).trans al;have bT:w0.heap.size<=kB:=by have h1:=(ah.trans a7).size;omega
    have bS:w0.heap.size<=gB:=by omega
    have bc:Arr w3 gB 29 [.slice none 0 0]:=ap.ext al;have ba:Lb w0 n [[unR ts],L1,L2] kB gB [] w3:=⟨r,L,[],none,0,0,[],s,aq,bc,bw.ext al,aZ.out.1,aZ.out.2,Own.nil _ _ _,fun i J=>absurd J (by simp),rfl,VI.start _ _,List.nodup_nil⟩
    have bJ:=qh (Gx (kB:=kB) (fB:=fB) (gB:=gB) (nB:=nB) (Inv:=fun V w=>Lb w0 n [[unR ts],L1,L2] kB gB V w) E (fun V w N h e=>h.ext e)
     (fun V wv ct a c xs hV hO hp=>RI E bT bS a0.out.1 a0.out.2.1 a0.out.2.2.1 rfl a0.out.2.2.2 hV hO hp) n [] [] 0 none 0 0 w3 (by omega) List.nodup_nil (fun x hx=>by cases hx) ba (Own.nil _ _ _))
    have n3:=s.cell n0;clear aq bc ap bF bw n2 ah a7 al cr bG bd ba
    go_wp2_with fail
    refine bJ.out.mono ?_;rintro e w4 ⟨rfl,cf,_⟩;clear bJ n3;obtain⟨r4,L4,c6,cw,cC,cx,cy,aC,bu,_,bx,av,M,_,_,_,ad,_⟩:=cf;have az:=qh (And.intro av (And.intro M ad));have bv:∀ x∈L4,x.length=n:=fun x hx=>(Bi E ad.perms ((M x).1 hx)).2;have ch:=CM E ad.perms av (fun p hp=>(M p).1 hp);have h14:0<L4.length:=gW ((M _).2 (CT c6 n));have k4:=bu.c 0 rfl;have n4:=aC.cell n0;have bM:=qh (Dg bx E bv (by omega) h14);clear bu bx av M ad bv ch h14
    go_wp2_with fail
    refine bM.out.mono ?_;rintro e w5 ⟨bP,⟨a5,n5,c5,bQ,rfl,S,cj,ca,cb⟩,ac,aY⟩
    have be:∀ p,p∈bP<->Aut n [[unR ts],L1,L2] p:=fun p=>by
     rw[ac.mem_iff,az.out.2.1];refine az.out.2.2.done E bY.out (fun q h1 h2 => ?_) p;rw[iM,Va n (by omega),N6 (by omega)];exact⟨h1,h2⟩
    have bl:Hid (bP=autL n [[unR ts],L1,L2]):=qh (Vb (by omega) (ac.nodup_iff.2 az.out.1) (by rw[ac.length_eq];exact aY) be);have bC:w.heap.size<=w4.heap.size:=by have h1:=b4.size;have h2:=aC.size;omega
    clear bM k4 n4 ac aY be;go_wp2
    go_ret2
    rw[c3.out];subst cj;exact⟨a5,_,c5,bQ,rfl,(b4.trans aC).trans S,by rw[<-bl.out],Own.mono ca bC,by rw[<-bl.out];exact cb.mono bC⟩
def WH(a:List Int)(l:List Pl.Tm):List Pl.Tm:=l.map fun t=>(mvd a t.1,t.2)
theorem RK{a:List Int}{l:List Pl.Tm}(h:∀ t∈l,t.1.length=n):Og (WH a l)=D6 n a (Og l):=by
 unfold Og WH D6;rw[j4,j4];refine gZ fun t b => ?_;have h1:=CR (l:=t.1);rw[h t b]at h1;show(Ab (mvd a t.1),t.2)=(mp n a (Ab t.1),t.2);unfold mp;rw[h1]
end Go.Proofs.YthdbingomfdeoaaGreatDoor
namespace Go.Proofs.YthdbingomfdeoaaGreatDoor
open Tryz Go Go.RowKit Go.ChangeShapes Go.WideShapes Go.ChangeAt
variable {x y:Addr} {held:Bool} {zs:List Int} {cs:List Value} {base cap fuel k len:Nat} {a:Option Addr} {v:Value} {w:World}
theorem LO(h:w.cell? x=some v):x.spot=none:=by
 unfold World.cell? at h;split at h
 · cases a:x.spot with
   | none=>rfl
   | some s=>rw[a]at h;simp at h
 · cases h
theorem Ko{b a i:Nat}:Addr.add ⟨b,a,none⟩ i=⟨b,a+i,none⟩:=by
 unfold Addr.add;split
 · next h=>subst h;rfl
 · rfl
theorem Qx 
 (h:(a=none/\len=0/\cap=0/\zs=[])\/∃ x,a=some x/\len<=cap/\cap<=maxLen/\zs.length=cap/\(∀ i,i<zs.length->w.cell? (x.add i)=some (.int .i64 (zs.getD i 0)))) :
 SlI w a len cap (zs.take len):=by
 rcases h with⟨rfl,rfl,rfl,rfl⟩|⟨x,rfl,h1,h2,h3,h4⟩
 · exact Sl.nil w
 · refine⟨by simp;omega,h1,h2,fun g => ?_⟩;have h0:=h4 0 (by omega);have e:x.spot=none:=LO (x:=x) (by simpa[Addr.add]using h0);obtain⟨b,d,j⟩:=x;simp only at e;subst e;refine⟨b,d,rfl,fun i f => ?_⟩;have:=h4 i (by omega);rw[Ko]at this;rw[this];have c:i<zs.length:=by omega
   simp[f,c]
theorem Kq{Q:Nat->List Value->Tx->Prop}:∀ n:Nat,(∀ i,i<n->∃ r t,Q i r t)->∃ (a:List (List Value)) (b:List Tx),a.length=n/\b.length=n/\∀ i,i<n->Q i (a.getD i []) (b.getD i tm0)
 | 0,_=>⟨[],[],rfl,rfl,fun i c=>absurd c (by omega)⟩
 | n+1,h=>by
  obtain⟨a,b,h1,h2,h3⟩:=Kq n (fun i c=>h i (by omega));obtain⟨r,t,h4⟩:=h n (by omega);refine⟨a ++ [r],b ++ [t],by simp[h1],by simp[h2],fun i c => ?_⟩;by_cases e:i=n
  · subst e;have d:(a ++ [r]).getD i []=r:=by rw[gqq,gd (by omega),h1,jo];rfl
    have f:(b ++ [t]).getD i tm0=t:=by rw[gqq,gd (by omega),h2,jo];rfl
    rw[d,f];exact h4
  · rw[gqq,fj (by omega),<-gqq,gqq (l:=b ++ [t]),fj (by omega),<-gqq];exact h3 i (by omega)
theorem TW(h:w.cells? base y k=some cs):cs.length=k/\∀ j,j<k->∃ v,cs[j]?=some v/\w.cell? (y.add j)=some v:=by
 unfold World.cells? at h;split at h
 · refine⟨by have:=Lib.mapM_length h;simpa using this,fun j a => ?_⟩;obtain⟨b,h1,h2⟩:=Lib.mapM_at h j j (by simp[a]);exact⟨b,h1,h2⟩
 · cases h
theorem Pt:prog.cellsOf 46=2:=by kernel_rfl
theorem RL:prog.cellsOf 9=1:=by kernel_rfl
theorem LP:prog.cellsOf 3=1:=by kernel_rfl
theorem Pu:prog.cellsOf 35=1:=by kernel_rfl
theorem Oh:prog.cellsOf 22=1:=by kernel_rfl
theorem Kr{H:Type}{enc:TypeId×Value->H}{x:DataW H×List MemPlace}
 (h:DataW.trod enc prog w base (fun _=>true) held fuel 35 cs=some x):∃ a n c j,cs=[.slice a n c]/\SlI w a n c j:=by
 rcases open_ints underlying35 underlying3 LP h with⟨d,_⟩|⟨y,l,c,zs,d,_,e,f,i,_,b,g⟩
 · exact⟨none,0,0,_,d,Qx (zs:=[]) (.inl ⟨rfl,rfl,rfl,rfl⟩)⟩
 · exact⟨_,_,_,_,d,Qx (zs:=zs) (.inr ⟨_,rfl,e,f,by simpa using i,b⟩)⟩
theorem Pw{H:Type}{enc:TypeId×Value->H}{x:DataW H×List MemPlace}
 (h:DataW.trod enc prog w base (fun _=>true) held fuel 22 cs=some x):∃ a n c J,cs=[.slice a n c]/\CP w a n c J:=by
 rcases DataW.trod_slice underlying22 h with⟨g,_⟩|⟨y,l,B,C,N,T,_,g,_,U,O,P,L,p,_,_⟩
 · exact⟨none,0,0,[],g,[],SlK.nil w 2,rfl,fun i d=>absurd d (by omega)⟩
 · rw[Pt]at p;have F:∀ i,i<l->∃ (r:List Value) (t:Tx),r.length=2/\SP w r t/\∀ j,j<2->w.cell? ((y.add (i*2)).add j)=some (r.getD j undef):=by
    intro i d;have h1:=p i d;rw[eZ (by omega),Option.bind_eq_some_iff]at h1;obtain⟨e,h2,h3⟩:=h1;obtain⟨D,f⟩:=TW h2;obtain⟨W,X,k,_,_,u0,u1⟩:=trod_struct2 underlying46 h3;obtain⟨s,e0,_,_⟩:=DataW.trod_string underlying9 u0;obtain⟨z,G,A,S,K,R⟩:=Kr u1;have m:(e.drop 0).take (prog.cellsOf 9)=[.string s]:=e0;have o:(e.drop 1).take (prog.cellsOf 35)=[.slice z G A]:=K;rw[RL]at m;rw[Pu]at o;clear e0 K u0 u1 h3
    match e,D,m,o with
    | [v0,v1],_,m,o =>
     simp only[gP,iB,l9,jc,lh,ij]at m o;subst m;subst o;refine⟨[.string s,.slice z G A],(Ah s,S),rfl,⟨s,z,G,A,rfl,rfl,R⟩,fun j E => ?_⟩;obtain⟨v,h4,h5⟩:=f j E;rw[h5,gqq,h4];rfl
   obtain⟨q,J,h1,h2,h3⟩:=Kq l F;refine⟨some y,l,B,J,g,q,⟨h1,O,P,fun r Q => ?_,fun h0 => ?_⟩,h2,fun i d=>(h3 i d).2.1⟩
   · obtain⟨i,d,rfl⟩:=io.1 Q;have:=(h3 i (by omega)).1;simpa[d]using this
   · have M:y.spot=none:=by
      have h4:=(h3 0 h0).2.2 0 (by omega);have h5:=LO h4;simpa[Addr.add]using h5
     obtain⟨b,I,V⟩:=y;simp only at M;subst M;refine⟨b,I,rfl,fun i d j E => ?_⟩;have h4:=(h3 i d).2.2 j E
     rwa[Ko,Ko]at h4
theorem RN{H:Type}{enc:TypeId×Value->H}{x:DataW H×List MemPlace}
 (h:DataW.trod enc prog w base (fun _=>true) held fuel 24 cs=some x):∃ b a n c i,cs=[.int .i64 b,.slice a n c]/\(-9223372036854775808<=b/\b<=9223372036854775807)/\CP w a n c i:=by
 obtain⟨p,q,k,_,l,u0,u1⟩:=trod_struct2 underlying24 h;obtain⟨b,e0,_,f⟩:=DataW.trod_int underlying3 u0;have g : -9223372036854775808<=b/\b<=9223372036854775807:=by
  simp only[Lit.wf,gY,gV]at f;exact f
 obtain⟨a,n,c,i,j,o⟩:=Pw u1;have m:prog.cellsOf 24=2:=by kernel_rfl
 rw[m]at l;have d:(cs.drop 0).take (prog.cellsOf 3)=[.int .i64 b]:=e0;have e:(cs.drop 1).take (prog.cellsOf 22)=[.slice a n c]:=j;rw[LP]at d;rw[Oh]at e;clear e0 j u0 u1 h
 match cs,l,d,e with
 | [v0,v1],_,d,e =>
  simp only[gP,iB,l9,jc,lh,ij]at d e;subst d;subst e;exact⟨b,a,n,c,i,rfl,g,o⟩
end Go.Proofs.YthdbingomfdeoaaGreatDoor
namespace Go.Proofs.YthdbingomfdeoaaGreatDoor
open Tryz Go Go.RowKit Go.ChangeShapes Go.WideShapes Go.ChangeAt
variable {held:Bool} {base c fuel n:Nat} {a:Option Addr} {w:World}
theorem Ks{H:Type}{enc:TypeId×Value->H}{x:DataW H×List MemPlace}
 (h:DataW.trod enc prog w base (fun _=>true) held fuel 35 [.slice a n c]=some x):∃ b,SlI w a n c b:=by
 obtain⟨f,i,g,b,e,d⟩:=Kr h;cases e;exact⟨b,d⟩
end Go.Proofs.YthdbingomfdeoaaGreatDoor
