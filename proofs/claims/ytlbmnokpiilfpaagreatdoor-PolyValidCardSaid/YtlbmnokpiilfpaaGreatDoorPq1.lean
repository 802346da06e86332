/- Part Pq1. -/
import Derived.WalkKit
import Derived.Lib.Hide
import Derived.Deep.Draws
import Derived.Maps.AppendAt
import Derived.Deep.AppendLies
import Derived.RegionTactic
import Derived.OwnWalk
import Derived.Laws.Rows
import Derived.Laws.Tables
import Derived.Laws.CopyRow
import Derived.Laws.IdiomCopy
set_option linter.all false
set_option maxRecDepth 100000
set_option maxHeartbeats 100000000
namespace Go.Proofs.YtlbmnokpiilfpaaGreatDoor
open Go Go.RowKit
variable {f:Act} {ops:Array Oper} {b:Bool} {Q:Exit->Act->World->Prop} {rest:List Oper} {cs cur news vs xs:List Value} {base base' bytes cx g m n:Nat} {o:Oper} {d l s x y:Operand} {A a:Option Addr} {row:Option Nat} {P:Program} {dT e sT t ty:TypeId} {v z:Value} {w w':World}
universe u
def gD:=@List.getElem?_eq_getElem
def gG:=@List.take_of_length_le
def gH:=@Nat.mul_le_mul_right
def gJ:=@Nat.le_trans
def gK:=@Option.some.injEq
def gM:=@List.take_succ_eq_append_getElem
def gO:=@Nat.zero_le
def gP:=@Option.getD_some
def gQ:=@List.eq_nil_of_length_eq_zero
def gS:=@Result.andThen_ok
def gT:=@if_neg
def gV:=@Nat.mul_comm
def gW:=@Value.slice.injEq
def gX:=@Nat.eq_zero_or_pos
def ia:=@Classical.byContradiction
def ib:=@Nat.lt_of_lt_of_le
def ic:=@Nat.pow_le_pow_right
def ig:=@List.getElem?_eq_none
def ij:=@Sem.run_bind
def ip:=@Nat.pow_succ
def iq:=@List.length_take
def iw:=@List.mem_append
def iz:=@Nat.zero_add
def iB:=@Nat.mul_le_mul_left
def iF:=@Sem.run_pure
def iH:=@Nat.lt_or_ge
def iV:=@Addr.mk.injEq
def iW:=@Nat.add_mul
def j4:=@run_underlying
def j7:=@List.mem_or_eq_of_mem_set
def j8:=@List.length_cons
def ja:=@List.map_cons
def jd:=@Int.mul_le_mul_of_nonneg_left
def jf:=@wpList_plain
def jh:=@Int.mul_le_mul_of_nonneg_right
def ji:=@List.drop_zero
def jl:=@List.getElem_mem
def jp:=@and_true
def jq:=@World.block_lt_of_cell?
def jE:=@List.map_nil
def jH:=@List.map_toArray
def jJ:=@Option.map_some
def jK:=@Nat.min_eq_left
def jN:=@List.take_append_drop
def jR:=@Nat.add_assoc
def jT:=@List.cons_append
def jY:=@Array.getElem?_eq_none
def km:=@Nat.mul_one
def kB:=@Nat.mul_assoc
def kG:=@Nat.pow_pos
def kI:=@List.getLast_eq_getElem
def kJ:=@World.cell?_of_block
def kQ:=@List.getD_cons_succ
def kS:=@Array.getElem?_modify
def kU:=@List.mem_of_mem_take
def lg:=@List.drop_succ_cons
def lu:=@List.set_cons_succ
def lI:=@true_and
def lR:=@Int.mul_nonneg
def lV:=@List.set_cons_zero
def lW:=@List.map_replicate
def mh:=@List.mem_of_mem_drop
def mw:=@List.map_set
def mE:=@List.length_nil
def mM:=@heap_alloc_new
def ni:=@List.replicate_succ
def nj:=@List.setIfInBounds_toArray
def nl:=@World.grownBy.refl
def nw:=@Nat.add_sub_cancel
def nH:=@info_parts
def nN:=@Nat.lt_irrefl
def nT:=@List.take_length
def oA:=@Nat.div_mul_le_self
def oF:=@World.ownsRow_lit
def oM:=@Int.le_trans
def oS:=@List.dropLast_concat_getLast
def pg:=@List.map_take
theorem lq{b:Type u}{a:b}{l:List b}:(a::l).length=l.length+1:=j8
theorem lw{a:Type u}:([]:List a).length=0:=mE
theorem lx{b:Type u}{a:b}{l:List b}{i:Nat}:(a::l).drop (i+1)=l.drop i:=lg
theorem lz{a:Type u}{l:List a}:l.drop 0=l:=ji
theorem lj{b:Type u}{a:b}{l:List b}{i:Nat}:l.toArray.setIfInBounds i a=(l.set i a).toArray:=nj _ _ _
theorem lk{b:Type u}{x a:b}{l:List b}{i:Nat}:(x::l).set (i+1) a=x::l.set i a:=lu
theorem ly{b:Type u}{x a:b}{l:List b}:(x::l).set 0 a=a::l:=lV
theorem gqq{a:Type u}{l:List a}{i:Nat}{d:a}:l.getD i d=l[i]?.getD d:=List.getD_eq_getElem?_getD
theorem lrf(n:Nat):n<=n:=Nat.le_refl n
def Ext(w w':World):Prop:=Below w.heap.size w w'
theorem Ext.refl(w:World):Ext w w:=Below.refl _ _
theorem Ext.trans{a b c:World}(h:Ext a b)(k:Ext b c):Ext a c:=Below.trans h (Below.mono k h.size)
theorem Ext.size{w a:World}(h:Ext w a):w.heap.size<=a.heap.size:=Below.size h
theorem Ext.drewN{w a:World}(h:Ext w a)(n:Nat):Ext w (a.drewN n):=⟨h.os,h.tape,h.output,h.size,h.block⟩
theorem Ext.drew{w a:World}(h:Ext w a):Ext w a.drew:=⟨h.os,h.tape,h.output,h.size,h.block⟩
theorem Ext.alloc{w a:World}(h:Ext w a)(o:Obj):Ext w (a.alloc o):=Below.alloc h h.size o
theorem Ext.setCell{w a:World}(h:Ext w a){p:Addr}(hp:w.heap.size<=p.block)(u:Value):Ext w (a.setCell p u):=Below.setCell h hp u
theorem Ext.grown{w b a:World}{row:Option Nat}(h:Ext w b)(c:b.grownBy a row)(d:∀ k,row=some k->w.heap.size<=k):Ext w a :=
 Below.grown h c h.size d
theorem Ext.block{w a:World}(h:Ext w a){k:Nat}(b:k<w.heap.size):a.heap[k]?=w.heap[k]?:=Below.block h k b
theorem Ext.cell{w a:World}(h:Ext w a){p:Addr}{v:Value}(hp:w.cell? p=some v):a.cell? p=some v:=by
 rw[kJ (w:=w) (h.block (jq w p hp)),hp]
def Qt(w w':World):Prop:=∃ n,w'=w.drewN n
theorem Qt.refl(w:World):Qt w w:=⟨0,rfl⟩
theorem Qt.drewN{w a:World}(h:Qt w a)(n:Nat):Qt w (a.drewN n):=by
 obtain⟨m,rfl⟩:=h;exact⟨m+n,by rw[World.drewN_drewN]⟩
theorem Qt.drew{w a:World}(h:Qt w a):Qt w a.drew:=h.drewN 1
theorem Qt.trans{a b c:World}(h:Qt a b)(k:Qt b c):Qt a c:=by
 obtain⟨m,rfl⟩:=k;exact h.drewN m
theorem Qt.ext(h:Qt w w'):Ext w w':=by
 obtain⟨m,rfl⟩:=h;exact(Ext.refl w).drewN m
theorem YJ{a:Bool}(h:b=a):Ending.returned (.bool a) = .returned (.bool b):=by rw[h]
theorem DF{k:IntKind}{a b:Int}(h:b=a):Ending.returned (.int k a) = .returned (.int k b):=by rw[h]
structure Sl(w:World)(a:Option Addr)(n c:Nat)(cs:List Value):Prop where
 len:cs.length=n
 cap:n<=c
 max:c<=maxLen
 rd:0<n->∃ b off,a=some ⟨b,off,none⟩/\∀ i,i<n->w.cell? ⟨b,off+i,none⟩=some (cs.getD i undef)
theorem Sl.ext{c:Nat}(h:Sl w a n c cs)(e:Ext w w'):Sl w' a n c cs :=
 ⟨h.len,h.cap,h.max,fun h0=>let ⟨b,off,ha,hc⟩:=h.rd h0;⟨b,off,ha,fun i d=>e.cell (hc i d)⟩⟩
theorem Sl.nil(w:World):Sl w none 0 0 []:=⟨rfl,lrf _,gO _,fun h=>absurd h (nN _)⟩
def SlI(w:World)(a:Option Addr)(n c:Nat)(xs:List Int):Prop:=Sl w a n c (xs.map (Value.int .i64))
theorem SlI.ext{w b:World}{a:Option Addr}{n c:Nat}{xs:List Int}(h:SlI w a n c xs)(e:Ext w b):SlI b a n c xs:=Sl.ext h e
theorem SlI.len{w:World}{a:Option Addr}{n c:Nat}{xs:List Int}(h:SlI w a n c xs):xs.length=n:=by
 have:=Sl.len h;simpa using this
theorem SlI.le{c:Nat}{xs:List Int}(h:SlI w a n c xs):n<=9223372036854775807:=by
 have h1:=Sl.cap h;have h2:=Sl.max h;unfold maxLen at h2;omega
theorem SlI.at{c:Nat}{xs:List Int}(h:SlI w a n c xs){k:Nat}(l:k<n) :
 ∃ b d,a=some ⟨b,d,none⟩/\∀ i,i<n->w.cell? ⟨b,d+i,none⟩=some (.int .i64 (xs.getD i 0)):=by
 obtain⟨b,d,f,g⟩:=Sl.rd h (by omega);refine⟨b,d,f,fun i j => ?_⟩;rw[g i j];have m:=h.len;have e:i<xs.length:=by omega
 simp[e]
theorem Sl.of_owns{v c:Nat}(h:w.ownsRow base e 1 (.slice a n c) v cs):Sl w a n c cs:=by
 obtain⟨j,h⟩:=h;rcases h with⟨d,s⟩|⟨g,l,b,d,x,o,k,r,y,t⟩
 · simp only[gW]at d;obtain⟨rfl,rfl,rfl⟩:=d;subst s;have:cs=[]:=by simpa using j
   subst this;exact Sl.nil w
 · simp only[gW]at d;obtain⟨rfl,rfl,rfl⟩:=d;refine⟨by simpa using j,k,r,fun _=>⟨g,0,rfl,fun i p => ?_⟩⟩;have q:cs.length=n:=by simpa using j
   have m:cs.getD i undef=b.toList.getD i undef:=by
    rw[<-t];simp[p]
   have f:i<b.size:=by omega
   rw[m];simp[World.cell?,o,f]
theorem NJ{size:Nat}(h:w.ownsRow base e size v n xs)(k:Ext w w'):w'.ownsRow base e size v n xs:=by
 obtain⟨h1,h2⟩:=h;refine⟨h1,?_⟩;rcases h2 with h2|⟨g,a,b,i,f,d,r⟩
 · exact Or.inl h2
 · refine Or.inr ⟨g,a,b,i,f,?_,r⟩;have c:g<w.heap.size:=by
    rcases iH g w.heap.size with h|h
    · exact h
    · simp[jY h]at d
   rw[k.block c,d]
def Own(w:World)(base:Nat)(e:TypeId)(a:Option Addr)(n c:Nat)(cs:List Value):Prop:=w.ownsRow base e 1 (.slice a n c) n cs
def Ca(P:Program)(e:TypeId)(z:Value)(bytes:Nat):Prop :=
 (P.info? e).map (fun i=>(i.zero,i.size,i.bytes))=some (some z,1,bytes)
def blk(a:Option Addr):Option Nat:=a.map (·.block)
section
variable {w w':World} {base:Nat} {e:TypeId} {a:Option Addr} {n c:Nat} {cs:List Value}
theorem Own.sl(h:Own w base e a n c cs):Sl w a n c cs:=Sl.of_owns h
theorem Own.ext(h:Own w base e a n c cs)(k:Ext w w'):Own w' base e a n c cs:=NJ h k
theorem Own.len(h:Own w base e a n c cs):cs.length=n:=h.sl.len
theorem Own.cap(h:Own w base e a n c cs):n<=c:=h.sl.cap
theorem Own.nil(w:World)(base:Nat)(e:TypeId):Own w base e none 0 0 []:=World.ownsRow_nil w base e 1
theorem Own.lt(h:Own w base e a n c cs){k:Nat}(d:blk a=some k):base<=k/\k<w.heap.size:=by
 refine World.ownsRow.lt h k ?_;cases a with
 | none=>simp[blk]at d
 | some b=>simpa[blk,Value.ownBlock]using d
theorem Own.mono(h:Own w base e a n c cs)(i:base'<=base):Own w base' e a n c cs:=by
 obtain⟨h1,h2⟩:=h;refine⟨h1,?_⟩;rcases h2 with h2|⟨g,b,d,f,j,r⟩
 · exact Or.inl h2
 · exact Or.inr ⟨g,b,d,f,by omega,r⟩
theorem Own.kept{row:Option Nat}(h:Own w base e a n c cs)(f:w.grownBy w' row)(d:blk a=none\/blk a≠row):Own w' base e a n c cs:=by
 refine World.ownsRow.kept h f ?_;cases a with
 | none=>left;rfl
 | some b=>right;rcases d with h | h
           · simp[blk]at h
           · simpa[blk,Value.ownBlock]using h
theorem Own.drewN(h:Own w base e a n c cs)(k:Nat):Own (w.drewN k) base e a n c cs:=h
theorem Own.alloc(h:Own w base e a n c cs)(o:Obj):Own (w.alloc o) base e a n c cs:=World.ownsRow.alloc h o
theorem Own.place(h:Own w base e a n c cs)(k:0<n):∃ g,a=some ⟨g,0,none⟩/\base<=g/\g<w.heap.size:=by
 rcases h.2 with⟨_,h0⟩|⟨g,d,f,b,i,j,_⟩
 · omega
 · simp only[gW]at b;refine⟨g,b.1,i,?_⟩;rcases iH g w.heap.size with h|h
   · exact h
   · simp[jY h]at j
end
section
variable {w:World} {base:Nat} {e:TypeId} {g n c:Nat} {cs:List Value}
theorem Own.cellAt(h:Own w base e (some ⟨g,0,none⟩) n c cs){j:Nat}(a:j<n):w.cell? ⟨g,j,none⟩=some (cs.getD j undef):=by
 have h1:=World.ownsRow.cellAt h j (by omega);have h2:j<cs.length:=by have:=h.len;omega
 rw[h1];simp[h2]
theorem Own.frozenAt(h:Own w base e (some ⟨g,0,none⟩) n c cs)(j:Nat):w.frozen? ⟨g,j,none⟩=false:=World.ownsRow.frozenAt h j
theorem Own.stored(h:Own w base e (some ⟨g,0,none⟩) n c cs)(j:Nat)(u:Value) :
 Own (w.setCell ⟨g,j,none⟩ u) base e (some ⟨g,0,none⟩) n c (cs.set j u):=(World.ownsRow.stored h j u).1
end
theorem AB(w:World)(base:Nat)(e:TypeId)(cs:Array Value)(n:Nat)(b:cs.size=n)(a:base<=w.heap.size)(c:n<=1000000) :
 Own (w.alloc (.cells cs e)) base e (some ⟨w.heap.size,0,none⟩) n n cs.toList:=by
 subst b;exact oF w cs cs.size a (by unfold maxLen;omega) (by omega)
theorem Own.drew{w:World}{base:Nat}{e:TypeId}{a:Option Addr}{n c:Nat}{cs:List Value}(h:Own w base e a n c cs):Own w.drew base e a n c cs:=h
theorem Sl.drew{w:World}{a:Option Addr}{n c:Nat}{cs:List Value}(h:Sl w a n c cs):Sl w.drew a n c cs:=h.ext (Ext.refl w).drew
theorem Sl.alloc{w:World}{a:Option Addr}{n c:Nat}{cs:List Value}(h:Sl w a n c cs)(o:Obj):Sl (w.alloc o) a n c cs:=h.ext ((Ext.refl w).alloc o)
theorem Sl.upto{c:Nat}(h:Sl w a n c cs){k:Nat}(j:k<=n):Sl w a k c (cs.take k):=by
 refine⟨by have:=h.len;simp;omega,by have:=h.cap;omega,h.max,fun h0 => ?_⟩;obtain⟨b,d,e,f⟩:=h.rd (by omega);refine⟨b,d,e,fun i g => ?_⟩;rw[f i (by omega)];simp[g]
theorem Sl.from{c:Nat}(h:Sl w a n c cs){k:Nat}(l:k<=n) :
 Sl w (if c=k then a else a.map (fun x=>x.add k)) (n-k) (c-k) (cs.drop k):=by
 refine⟨by have:=h.len;simp;omega,by have:=h.cap;omega,by have:=h.max;omega,fun h0 => ?_⟩;obtain⟨b,d,f,g⟩:=h.rd (by omega);subst f;have e:=h.cap;rw[gT (by omega)];refine⟨b,d+k,?_,fun i j => ?_⟩
 · simp only[jJ,Addr.add];by_cases h0:k=0 <;> simp[h0]
 · rw[jR,g (k+i) (by omega)];simp
theorem Ar(w:World)(g j:Nat)(u:Value):w.grownBy (w.setCell ⟨g,j,none⟩ u) (some g) :=
 ⟨rfl,rfl,rfl,by simp[World.setCell],fun k _ a=>by
  simp only[World.setCell,kS]
  rw[gT (by rintro rfl;exact a rfl)]⟩
def Arr(w:World)(g:Nat)(t:TypeId)(cs:List Value):Prop:=w.heap[g]?=some (.cells cs.toArray t (0,0))
section
variable {w w':World} {g:Nat} {t:TypeId} {cs:List Value}
theorem Arr.lt(h:Arr w g t cs):g<w.heap.size:=by
 rcases iH g w.heap.size with b|a
 · exact b
 · unfold Arr at h;rw[jY a]at h;cases h
theorem Arr.cell(h:Arr w g t cs){i:Nat}(hi:i<cs.length):w.cell? ⟨g,i,none⟩=some (cs.getD i undef):=by
 unfold Arr at h;simp[World.cell?,h,hi]
theorem Arr.c(h:Arr w g t cs)(i:Nat){v:Value}(a:cs[i]?=some v):w.cell? ⟨g,i,none⟩=some v:=by
 rw[h.cell (i:=i) (by rcases iH i cs.length with h | h;exact h;simp[ig h]at a),gqq,a];rfl
theorem Arr.frozen(h:Arr w g t cs)(i:Nat):w.frozen? ⟨g,i,none⟩=false:=by
 unfold Arr at h;simp[World.frozen?,h]
theorem Arr.new(w:World)(t:TypeId)(cs:List Value):Arr (w.alloc (.cells cs.toArray t)) w.heap.size t cs:=mM w _
theorem Arr.set(h:Arr w g t cs)(i:Nat)(u:Value):Arr (w.setCell ⟨g,i,none⟩ u) g t (cs.set i u):=by
 unfold Arr at h |-;simp[World.setCell,kS,h]
theorem Arr.sl(h:Arr w g t cs){k:Nat}(b:k<=cs.length)(c:cs.length<=maxLen):Sl w (some ⟨g,0,none⟩) k cs.length (cs.take k):=by
 refine⟨by simp;omega,b,c,fun _=>⟨g,0,rfl,fun i a => ?_⟩⟩;rw[iz,h.cell (by omega)];simp[a]
theorem Arr.ext(h:Arr w g t cs)(k:Ext w w'):Arr w' g t cs:=(k.block h.lt).trans h
theorem Arr.kept(h:Arr w g t cs)(a:w.grownBy w' row)(b:some g≠row):Arr w' g t cs:=(a.block g h.lt b).trans h
theorem Arr.drewN(h:Arr w g t cs)(n:Nat):Arr (w.drewN n) g t cs:=h
theorem Arr.alloc(h:Arr w g t cs)(o:Obj):Arr (w.alloc o) g t cs:=(Below.heap_alloc w o g h.lt).trans h
theorem Arr.far(h:Arr w g t cs){p:Addr}(hp:g≠p.block)(u:Value):Arr (w.setCell p u) g t cs:=(Below.heap_setCell w p u g hp).trans h
end
section
variable {P:Program} {w:World}
theorem QK{c:Nat} 
 (I:P.underlying t=some (.slice e)) (v:Ca P e z bytes) (J:z.cells.size=1) (d:Own w base e a n c xs) (f:Sl w A m cx news)
 (h1:∀ u∈news,u.oneCell'=true) (h63:n+m<=maxLen) (k:(n+m)*bytes<=140737488355328) (s:base<=w.heap.size) :
 ∃ C L y,(Builtin.append_ #[t,t] ty #[.slice a n c,.slice A m cx]).run P w = .ok (.slice C (n+m) L) y/\Own y base e C (n+m) L (xs ++ news) /\
  w.grownBy y (blk a)/\(blk C=blk a\/blk C=some w.heap.size):=by
 obtain⟨i,F,Q,x,E⟩:=nH v;have p:(Value.slice a n c).ownBlock=blk a:=by cases a <;> rfl
 rcases A with _|K
 · have N:m=0:=by
    rcases gX m with h0|h0
    · exact h0
    · obtain⟨b,o,h,_⟩:=f.rd h0;cases h
   subst N;have O:news=[]:=gQ f.len;subst O;refine⟨a,c,w,?_,by simpa using d,nl w _,.inl rfl⟩;rcases d.2 with⟨q,rfl⟩|⟨g,B,D,q,_,_,H,_⟩
   · simp only[gW]at q;obtain⟨rfl,_,rfl⟩:=q;simp[Builtin.append_,j4 I,sizeOf,typeInfo,F,Builtin.lenOf,Builtin.firstCells]
   · simp only[gW]at q;obtain⟨rfl,_,rfl⟩:=q;simp[Builtin.append_,j4 I,sizeOf,typeInfo,F,Builtin.lenOf,Builtin.firstCells,H,storeCells]
 · have l:∀ j u,news[j]?=some u->w.cell? (K.add j)=some u:=by
    intro j u hu;have R:j<news.length:=by
     rcases iH j news.length with h|h
     · exact h
     · simp[ig h]at hu
    have G:j<m:=by have:=f.len;omega
    obtain⟨b,o,h,M⟩:=f.rd (by omega);injection h with h;subst h;have h2:=M j G;have h3:news.getD j undef=u:=by rw[gqq,hu];rfl
    rw[h3]at h2;rw[<-h2];unfold Addr.add;by_cases h0:j=0 <;> simp[h0]
   obtain⟨S,y,r,h2,h3,_,h5⟩:=run_append_own_at (P:=P) w base t ty e i z 1 bytes I F Q x E J (by omega) (.slice a n c) n xs d K m cx news (by have:=f.len;omega) l h1 h63 k s;rcases h2.2 with⟨q,h0⟩|⟨g,B,D,q,_⟩
   · subst q;refine⟨none,0,y,by rw[r,h0],?_,by rw[<-p];exact h3,by rw[<-p];exact h5⟩;unfold Own;rw[h0]at h2 |-;exact h2
   · subst q;exact⟨_,B,y,r,h2,by rw[<-p];exact h3,by rw[<-p];exact h5⟩
theorem WP{K:Act->World->Prop} 
 (y:o.op = .call { callee := .builtin .append,args:=#[s,x],argTypes:=#[t,t] })
 {e:TypeId} {z:Value} {bytes base:Nat} {a:Option Addr} {n c:Nat} {xs:List Value} {A:Option Addr} {m v:Nat} {news:List Value}
 (C:P.underlying t=some (.slice e)) (g:Ca P e z bytes) (r:z.cells.size=1) (B:f.eval s = .slice a n c) (j:Own w base e a n c xs) (D:f.eval x = .slice A m v) (q:Sl w A m v news)
 (h1:∀ u∈news,u.oneCell'=true) (h63:n+m<=maxLen) (b:(n+m)*bytes<=140737488355328) (d:base<=w.heap.size)
 (h:∀ i p l,Own l base e i (n+m) p (xs ++ news)->w.grownBy l (blk a)->(blk i=blk a\/blk i=some w.heap.size)->K (f.put o.dst (.slice i (n+m) p)) l):o.wp P f w K Q:=by
 obtain⟨i,p,l,k,h2,h3,h4⟩:=QK (P:=P) (ty:=o.type) C g r j q h1 h63 b d;unfold Oper.wp execOp;simp only[y,resolve,invoke,builtin,ij,iF,gS,jH,ja,jE,B,D,k];exact h i p l h2 h3 h4
theorem B5(p:o.guard=none)
 (B:o.op = .call { callee := .builtin .append,args:=#[s,x],argTypes:=#[t,t] })
 {e:TypeId} {z:Value} {bytes base:Nat} {a:Option Addr} {n c:Nat} {xs:List Value} {A:Option Addr} {m v:Nat} {news:List Value}
 (D:P.underlying t=some (.slice e)) (g:Ca P e z bytes) (r:z.cells.size=1) (C:f.eval s = .slice a n c) (j:Own w base e a n c xs) (E:f.eval x = .slice A m v) (q:Sl w A m v news)
 (h1:∀ u∈news,u.oneCell'=true) (h63:n+m<=maxLen) (b:(n+m)*bytes<=140737488355328) (d:base<=w.heap.size)
 (h:∀ i l k,Own k base e i (n+m) l (xs ++ news)->w.grownBy k (blk a)->(blk i=blk a\/blk i=some w.heap.size)->wpList P ops Q rest (f.put o.dst (.slice i (n+m) l)) k) :
 wpList P ops Q (o :: rest) f w :=
 jf p fun _ y=>WP B D g r C j E q h1 h63 b d fun i l k h2 h3 h4=>y _ _ (h i l k h2 h3 h4)
theorem Tk(k:P.underlying t=some (.slice e))(a:Ca P e z bytes)(f:z.cells=#[z])(g:bytes*n<=281474976710656)(h63:n<=maxLen) :
 ∃ c,(Instr.makeSlice t (.int .i64 n) (.int .i64 n)).run P w = .ok (.slice (some ⟨w.heap.size,0,none⟩) n n) c/\Own c w.heap.size e (some ⟨w.heap.size,0,none⟩) n n (List.replicate n z)/\Ext w c:=by
 obtain⟨i,j,l,b,d⟩:=nH a;obtain⟨c,h1,h2,h3⟩:=run_make_full (P:=P) w w.heap.size t e i z 1 k j l b .i64 .i64 n (by rw[d];exact g) h63 (lrf _);refine⟨c,h1,?_,(Ext.refl w).grown h3 (by simp)⟩;rw[km,f,toList_madeCells_one]at h2;exact h2
theorem C6{c:Operand}(q:o.guard=none)(i:o.op=Op.makeSlice t l c)
 {e:TypeId} {z:Value} {bytes n:Nat} (s:P.underlying t=some (.slice e)) (a:Ca P e z bytes) (j:z.cells=#[z]) (r:f.eval l = .int .i64 n) (p:f.eval c = .int .i64 n)
 (m:bytes*n<=281474976710656) (h63:n<=maxLen)
 (k:∀ d,Own d w.heap.size e (some ⟨w.heap.size,0,none⟩) n n (List.replicate n z)->Ext w d->wpList P ops Q rest (f.put o.dst (.slice (some ⟨w.heap.size,0,none⟩) n n)) d) :
 wpList P ops Q (o :: rest) f w:=by
 refine jf q fun K g => ?_;obtain⟨d,b,h2,h3⟩:=Tk (P:=P) (w:=w) s a j m h63;unfold Oper.wp execOp;simp only[i,ij,iF,gS,r,p,b,Oper.upon];exact g _ _ (k d h2 h3)
end
def Agg(P:Program)(ty:TypeId)(n:Nat):Prop :=
 (P.underlying ty).map (fun d=>match d with | .struct _ | .array _ _=>true | _=>false)=some true/\(P.info? ty).map (·.size)=some n
theorem Agg.parts(h:Agg P ty n) :
 ∃ d,P.underlying ty=some d/\(match d with | .struct _ | .array _ _=>true | _=>false)=true/\(P.info? ty).map (·.size)=some n:=by
 obtain⟨h1,h2⟩:=h;cases hu:P.underlying ty with
 | none=>rw[hu]at h1;cases h1
 | some d =>
  rw[hu]at h1;exact⟨d,rfl,by simpa using h1,h2⟩
theorem BK(w:World)(g:Nat)(cs:Array Value):w.grownBy (w.setRow g cs) (some g):=by
 refine⟨rfl,rfl,rfl,by simp[World.setRow],fun k _ a => ?_⟩;simp only[World.setRow,kS];rw[gT (by rintro rfl;exact a rfl)]
theorem Cm(h:Arr w g t cs)(vs:List Value):Arr (w.setRow g vs.toArray) g t vs:=by
 unfold Arr at h |-;simp[World.setRow,kS,h]
section
variable {P:Program} {w:World}
theorem NK(a:Agg P ty cs.length)(h:Arr w g t cs) :
 (Instr.loadAt ty (.pointer (some ⟨g,0,none⟩))).run P w = .ok (.agg cs.toArray) w:=by
 obtain⟨d,hu,b,c⟩:=a.parts;have:=run_loadVar_row (P:=P) w g t ty cs.toArray (0,0) d h hu (by cases d <;> first | rfl | exact absurd b (by simp)) (by simpa using c);simp[Instr.loadAt,Instr.sureAddr,this]
theorem DG(a:Agg P ty vs.length)(h:Arr w g t cs)(c:cs.length=vs.length)(h1:∀ v∈vs,v.oneCell'=true) :
 (Instr.storeAt ty (.pointer (some ⟨g,0,none⟩)) (.agg vs.toArray)).run P w = .ok () (w.setRow g vs.toArray):=by
 obtain⟨d,hu,e,b⟩:=a.parts;have:=run_storeVar_row (P:=P) w g t ty cs.toArray vs.toArray h (by simpa using b) (by simpa using c) (by simpa using h1);simp[Instr.storeAt,Instr.sureAddr,this]
theorem Ev(b:o.guard=none)(e:o.op = .load ty x)
 {g:Nat} {t:TypeId} {cs:List Value} (d:Agg P ty cs.length) (i:f.eval x = .pointer (some ⟨g,0,none⟩)) (h:Arr w g t cs)
 (c:wpList P ops Q rest (f.put o.dst (.agg cs.toArray)) w):wpList P ops Q (o :: rest) f w:=by
 refine jf b fun K a => ?_;unfold Oper.wp execOp;simp only[e,i,ij,NK d h,gS,iF,Oper.upon];exact a _ _ c
theorem Aa(b:o.guard=none)(k:o.op = .store ty x y)
 {g:Nat} {t:TypeId} {cs vs:List Value} {va:Array Value} (l:f.eval x = .pointer (some ⟨g,0,none⟩)) (m:f.eval y = .agg va) (c:va=vs.toArray) (i:Agg P ty vs.length) (h:Arr w g t cs)
 (j:cs.length=vs.length) (h1:∀ v∈vs,v.oneCell'=true)
 (e:∀ d,Arr d g t vs->w.grownBy d (some g)->wpList P ops Q rest (f.put o.dst undef) d):wpList P ops Q (o :: rest) f w:=by
 subst c;refine jf b fun K a => ?_;unfold Oper.wp execOp;simp only[k,l,m,ij,DG i h j h1,gS,iF,Oper.upon];exact a _ _ (e _ (Cm h vs) (BK w g _))
theorem Ap{b:Func}{p:Tmp}(i:b.results=#[.cell p ty]){a:Array Value}{g:Nat}{t:TypeId}{cs:List Value}(c:Agg P ty cs.length)
 (hp:a.getD p undef = .pointer (some ⟨g,0,none⟩)) (h:Arr w g t cs):(results b a).run P w = .ok (.agg cs.toArray) w:=by
 obtain⟨d,hu,e,f⟩:=c.parts;exact results_cell_row i a w g t cs.toArray (0,0) d hp h hu (by cases d <;> first | rfl | exact absurd e (by simp)) (by simpa using f)
theorem WQ{o l dc c:Nat}(y:P.underlying dT=some (.slice e))(f:Ca P e z bytes)
 (h:Arr w g t cur) (x:Sl w A m c cs) (G:m<=l) (s:o+m<=cur.length) (h1:∀ v∈cs,v.oneCell'=true) :
 ∃ r,(Builtin.copy_ #[dT,sT] ty #[.slice (some ⟨g,o,none⟩) l dc,.slice A m c]).run P w = .ok (goInt m) r/\Arr r g t (cur.take o ++ cs ++ cur.drop (o+m))/\w.grownBy r (some g):=by
 obtain⟨i,F,I,k,D⟩:=nH f;have p:(P.info? e).map (·.size)=some 1:=by simp[F,k]
 have d:=x.len;by_cases h0:m=0
 · subst h0;have:cs=[]:=gQ d;subst this;refine⟨w,run_copy_none w dT sT ty e _ _ l dc 0 c y p (by simp),?_,⟨rfl,rfl,rfl,lrf _,fun _ _ _=>rfl⟩⟩;simpa using h
 · obtain⟨b,q,C,E⟩:=x.rd (by omega);subst C;have n:m.min l=m:=jK G
   have:=run_copy_row (P:=P) w dT sT ty e g o l dc ⟨b,q,none⟩ m c cur.toArray t cs y p h (by rw[n];exact d) (by
    intro j v B;have H:j<cs.length:=by
     rcases iH j cs.length with h|h
     · exact h
     · simp[ig h]at B
    have h2:=E j (by omega);rw[gqq,B]at h2;rw[<-gP (a:=v) (b:=undef),<-h2.symm.symm];unfold Addr.add
    by_cases h3:j=0 <;> simp[h3]at h2 |- <;> exact h2) (by simp;omega) h1
   refine⟨_,?_,Cm h _,BK w g _⟩;rw[this,d]
theorem LF(n:o.guard=none)
 (C:o.op = .call { callee := .builtin .copy,args:=#[d,s],argTypes:=#[dT,sT] })
 {e:TypeId} {z:Value} {bytes g p r dc m c:Nat} {A:Option Addr} {t:TypeId} {a cs:List Value} (E:P.underlying dT=some (.slice e)) (b:Ca P e z bytes)
 (y:f.eval d = .slice (some ⟨g,p,none⟩) r dc) (q:f.eval s = .slice A m c)
 (h:Arr w g t a) (D:Sl w A m c cs) (B:m<=r) (i:p+m<=a.length) (h1:∀ v∈cs,v.oneCell'=true)
 (x:∀ k,Arr k g t (a.take p ++ cs ++ a.drop (p+m))->w.grownBy k (some g)->wpList P ops Q rest (f.put o.dst (goInt m)) k):wpList P ops Q (o :: rest) f w:=by
 refine jf n fun K l => ?_;obtain⟨k,j,h2,h3⟩:=WQ (P:=P) (ty:=o.type) (sT:=sT) (dc:=dc) E b h D B i h1;unfold Oper.wp execOp;simp only[C,resolve,invoke,builtin,ij,iF,gS,jH,ja,jE,y,q,j,Oper.upon];exact l _ _ (x k h2 h3)
end
end Go.Proofs.YtlbmnokpiilfpaaGreatDoor
namespace Go.Proofs.YtlbmnokpiilfpaaGreatDoor.W
variable {A Bb P a f u1 u2 v1 v2 α β:Int} {l xs ys:List Nat} {B D U V W b c c' d2 g i k lo lo' q r s u w3 x y0 y1:Nat}
def val(B:Nat):List Nat->Nat
 | []=>0
 | x :: r=>x+B*val B r
def bnd(B:Nat)(xs:List Nat):Prop:=∀ x∈xs,x<B
def nrm(xs:List Nat):Prop:=∀ h:xs≠[],xs.getLast h≠0
theorem val_app(B:Nat):∀ a b:List Nat,val B (a ++ b)=val B a+B^a.length*val B b
 | [],b=>by simp[val]
 | x :: a,b=>by
  simp only[jT,val,val_app B a b,j8,ip]
  grind
theorem val_snoc(B:Nat)(xs:List Nat)(x:Nat):val B (xs ++ [x])=val B xs+B^xs.length*x:=by
 rw[val_app];simp[val]
theorem val_zeros(B:Nat):∀ n,val B (List.replicate n 0)=0
 | 0=>rfl
 | n+1=>by simp[ni,val,val_zeros B n]
theorem val_lt{B:Nat}:∀ {xs:List Nat},bnd B xs->val B xs<B^xs.length
 | [],_=>by simp[val]
 | x :: xs,h=>by
  have h1:x<B:=h x (by simp);have h2:=val_lt (xs:=xs) (fun y a=>h y (by simp[a]));simp only[val,j8,ip];have:B*(val B xs+1)<=B*B^xs.length:=iB _ h2
  grind
theorem val_set{B:Nat}:∀ {xs:List Nat} {i:Nat} {v:Nat},i<xs.length->val B (xs.set i v)+B^i*xs.getD i 0=val B xs+B^i*v
 | [],_,_,h=>by simp at h
 | x :: xs,0,v,_=>by simp[val];omega
 | x :: xs,i+1,v,h=>by
  have:=val_set (B:=B) (xs:=xs) (i:=i) (v:=v) (by simpa using h);simp only[lu,val,kQ,ip]
  grind
theorem bnd_set(h:bnd B xs){i v:Nat}(a:v<B):bnd B (xs.set i v):=by
 intro x b;rcases j7 b with h1|h1
 · exact h x h1
 · rw[h1];exact a
theorem bnd_at(h:bnd B xs){i:Nat}(hi:i<xs.length):xs.getD i 0<B:=by
 rw[gqq,gD hi];exact h _ (jl hi)
theorem bnd_app(h:bnd B xs)(k:bnd B ys):bnd B (xs ++ ys):=by
 intro x a;rcases iw.1 a with h1|h1
 · exact h x h1
 · exact k x h1
theorem bnd_take(h:bnd B xs)(n:Nat):bnd B (xs.take n):=fun x a=>h x (kU a)
theorem bnd_drop(h:bnd B xs)(n:Nat):bnd B (xs.drop n):=fun x a=>h x (mh a)
theorem val_take_succ(hi:i<xs.length):val B (xs.take (i+1))=val B (xs.take i)+B^i*xs.getD i 0:=by
 rw[gM hi,val_snoc,iq,jK (by omega),gqq,gD hi];rfl
theorem val_split(xs:List Nat)(n:Nat)(h:n<=xs.length):val B xs=val B (xs.take n)+B^n*val B (xs.drop n):=by
 conv=>lhs;rw[<-jN n xs]
 rw[val_app,iq,jK h]
def trimTo(xs:List Nat):Nat->List Nat
 | 0=>[]
 | n+1=>if xs.getD n 0=0 then trimTo xs n else xs.take (n+1)
def trim(xs:List Nat):List Nat:=trimTo xs xs.length
theorem JG{B:Nat}{xs:List Nat}:∀ {n:Nat},n<=xs.length->val B (trimTo xs n)=val B (xs.take n)
 | 0,_=>by simp[trimTo,val]
 | n+1,h=>by
  unfold trimTo;split
  · rename_i h0;rw[JG (by omega),val_take_succ (by omega),h0];simp
  · rfl
theorem trim_val(xs:List Nat):val B (trim xs)=val B xs:=by
 rw[trim,JG (lrf _),nT]
theorem JH{xs:List Nat}:∀ {n:Nat},n<=xs.length->nrm (trimTo xs n)
 | 0,_=>by intro h;simp[trimTo]at h
 | n+1,h=>by
  unfold trimTo;split
  · exact JH (by omega)
  · rename_i h0;intro hne;rw[kI];have hl:(xs.take (n+1)).length=n+1:=by rw[iq];omega
    simp only[hl,nw,List.getElem_take];simpa[gD (show n<xs.length by omega)]using h0
theorem trim_nrm(xs:List Nat):nrm (trim xs):=JH (lrf _)
theorem trimTo_prefix{xs:List Nat}:∀ {n:Nat},n<=xs.length->∃ k,k<=n/\trimTo xs n=xs.take k
 | 0,_=>⟨0,lrf _,by simp[trimTo]⟩
 | n+1,h=>by
  unfold trimTo;split
  · obtain⟨k,h1,h2⟩:=trimTo_prefix (xs:=xs) (n:=n) (by omega);exact⟨k,by omega,h2⟩
  · exact⟨n+1,lrf _,rfl⟩
theorem bnd_trim(h:bnd B xs):bnd B (trim xs):=by
 obtain⟨k,_,e⟩:=trimTo_prefix (xs:=xs) (n:=xs.length) (lrf _);rw[trim,e];exact bnd_take h k
theorem nrm_pos(_hB:0<B){xs:List Nat}(h:nrm xs)(a:xs≠[]):B^(xs.length-1)<=val B xs:=by
 have e:xs=xs.dropLast ++ [xs.getLast a]:=(oS a).symm;have b:=h a;have h1:val B xs=val B xs.dropLast+B^(xs.length-1)*xs.getLast a:=by
  conv=>lhs;rw[e]
  rw[val_snoc,List.length_dropLast]
 have:B^(xs.length-1)*1<=B^(xs.length-1)*xs.getLast a:=iB _ (by omega);omega
theorem nrm_zero(b:0<B){xs:List Nat}(h:nrm xs):val B xs=0<->xs=[]:=by
 constructor
 · intro h0;refine ia fun a => ?_;have:=nrm_pos b h a;have:=kG (n:=xs.length-1) b;omega
 · rintro rfl;rfl
theorem len_lt(d:1<B){xs ys:List Nat}(b:bnd B xs)(c:nrm ys)(h:xs.length<ys.length):val B xs<val B ys:=by
 have h1:=val_lt b;have a:ys≠[]:=by intro e;rw[e]at h;simp at h
 have h2:=nrm_pos (B:=B) (by omega) c a;have h3:B^xs.length<=B^(ys.length-1):=ic (by omega) (by omega);omega
theorem nrm_len(b:1<B){xs:List Nat}(h:nrm xs){n:Nat}(c:val B xs<B^n):xs.length<=n:=by
 rcases iH n xs.length with h1|h1
 · have a:xs≠[]:=by intro e;rw[e]at h1;simp at h1
   have h2:=nrm_pos (B:=B) (by omega) h a;have h3:B^n<=B^(xs.length-1):=ic (by omega) (by omega);omega
 · exact h1
theorem nrm_nil:nrm []:=fun h=>absurd rfl h
theorem nrm_single(h:x≠0):nrm [x]:=fun _=>h
section
variable {B:Nat}
theorem add_step(f:k<l.length)(g:k<ys.length)(h:val B l+c*B^k=V+val B (ys.take k))(e:s+B*c'=l.getD k 0+ys.getD k 0+c) :
 val B (l.set k s)+c'*B^(k+1)=V+val B (ys.take (k+1)):=by
 have h1:=val_set (B:=B) (xs:=l) (i:=k) (v:=s) f;have h2:=val_take_succ (B:=B) g;rw[h2,ip];generalize l.getD k 0=x at *
 generalize ys.getD k 0=y at *
 generalize val B (l.set k s)=a at *
 generalize val B l=b at *
 generalize val B (ys.take k)=d at *
 generalize B^k=p at *
 grind
theorem add_step0(d:k<l.length)(h:val B l+c*B^k=V)(e:s+B*c'=l.getD k 0+c) :
 val B (l.set k s)+c'*B^(k+1)=V:=by
 have h1:=val_set (B:=B) (xs:=l) (i:=k) (v:=s) d;rw[ip];generalize l.getD k 0=x at *
 generalize val B (l.set k s)=a at *
 generalize val B l=b at *
 generalize B^k=p at *
 grind
theorem sub_step(f:k<l.length)(g:k<ys.length)(h:val B l+val B (ys.take k)=V+c*B^k)(e:s+ys.getD k 0+c=l.getD k 0+B*c') :
 val B (l.set k s)+val B (ys.take (k+1))=V+c'*B^(k+1):=by
 have h1:=val_set (B:=B) (xs:=l) (i:=k) (v:=s) f;have h2:=val_take_succ (B:=B) g;rw[h2,ip];generalize l.getD k 0=x at *
 generalize ys.getD k 0=y at *
 generalize val B (l.set k s)=a at *
 generalize val B l=b at *
 generalize val B (ys.take k)=d at *
 generalize B^k=p at *
 grind
theorem sub_step0(d:k<l.length)(h:val B l=V+c*B^k)(e:s+c=l.getD k 0+B*c') :
 val B (l.set k s)=V+c'*B^(k+1):=by
 have h1:=val_set (B:=B) (xs:=l) (i:=k) (v:=s) d;rw[ip];generalize l.getD k 0=x at *
 generalize val B (l.set k s)=a at *
 generalize val B l=b at *
 generalize B^k=p at *
 grind
theorem digit_hi{P:Nat}(c:W=w3*P+lo)(a:lo<P)(b:D=d2*P+lo')(d:q*D<=W):q*d2<=w3:=by
 rcases iH w3 (q*d2)with h|h
 · exfalso;have h1:(w3+1)*P<=q*d2*P:=gH _ h;have h2:q*(d2*P)<=q*D:=iB _ (by omega);have h3:q*(d2*P)=q*d2*P:=by rw[kB]
   have h4:(w3+1)*P=w3*P+P:=by rw[iW];omega
   omega
 · exact h
theorem digit_lo{e P:Nat}(_hP:0<P)(d:W=w3*P+lo)(c:D=d2*P+lo')(b:lo' < P)(f:W<(q+1)*D)(he:e*d2<=w3)(a:q+1<=d2):e<=q+1:=by
 rcases iH (q+1) e with h|h
 · exfalso;have h1:(q+2)*d2<=e*d2:=gH _ h;have h2:(q+2)*d2*P<=w3*P:=gH _ (by omega);have h3:(q+1)*D<=(q+1)*(d2*P+P):=iB _ (by omega);have h4:(q+1)*(d2*P+P)=(q+1)*d2*P+(q+1)*P:=by grind
   have h5:(q+2)*d2*P=(q+1)*d2*P+d2*P:=by grind
   have h6:(q+1)*P<=d2*P:=gH _ a;omega
 · exact h
end
structure Leh(a b A Bb P α β:Int)(f g u1 u2 v1 v2 s:Int):Prop where
 ha:a=A*P+α
 hb:b=Bb*P+β
 a0:0<=α
 a1:α<P
 b0:0<=β
 b1:β<P
 sg:s=1\/s = -1
 f0:0<=f
 g0:0<=g
 gf:g<=f
 ef:f=s*(u1*A-v1*Bb)
 eg:g = -(s*(u2*A-v2*Bb))
 sv:v2*f+v1*g=A
 su:u2*f+u1*g=Bb
 u1n:0<=u1
 u2n:0<=u2
 v1n:0<=v1
 v2p:1<=v2
 uv:u2<=v2
 vv:v1<=v2
theorem Leh.start{b:Int}(i:a=A*P+α)(j:b=Bb*P+β)(d:0<=α)(e:α<P)(b0:0<=β)(f:β<P)(g:0<=Bb)(c:Bb<=A):Leh a b A Bb P α β A Bb 1 0 0 1 1 :=
 ⟨i,j,d,e,b0,f,Or.inl rfl,by omega,g,c,by simp,by simp,by simp,by simp,by omega,by omega,by omega,by omega,by omega,by omega⟩
theorem Leh.sec{b g s:Int}(h:Leh a b A Bb P α β f g u1 u2 v1 v2 s)(m:v2<=g):0 <= -(s*(u2*a-v2*b)):=by
 obtain⟨k,l,d,q,i,r,n,_,_,_,_,j,_,_,_,c,_,p,o,_⟩:=h;have e : -(s*(u2*a-v2*b))=g*P-s*(u2*α-v2*β):=by rw[k,l,j];grind
 have v:u2*α<=v2*(P-1):=oM (jh o d) (jd (by omega) (by omega));have w:v2*β<=v2*(P-1):=jd (by omega) (by omega);have B:0<=u2*α:=lR c d;have C:0<=v2*β:=lR (by omega) i;have D:v2*P<=g*P:=jh m (by omega);have E:v2*(P-1)=v2*P-v2:=by grind
 rw[e];generalize u2 * α=x at *
 generalize v2 * β=y at *
 generalize v2 * P=z at *
 generalize g * P=t at *
 rcases n with rfl|rfl <;> omega
theorem Leh.gap{b g s:Int}(h:Leh a b A Bb P α β f g u1 u2 v1 v2 s)(q:v1+v2<=f-g)(hu:u1<=v1\/(u1=1/\v1=0/\u2=0/\s=1)) : -(s*(u2*a-v2*b))<s*(u1*a-v1*b):=by
 obtain⟨k,l,c,C,j,D,r,_,_,_,o,p,_,_,d,e,i,B,w,Q⟩:=h;have m : -(s*(u2*a-v2*b))=g*P-s*(u2*α-v2*β):=by rw[k,l,p];grind
 have n:s*(u1*a-v1*b)=f*P+s*(u1*α-v1*β):=by rw[k,l,o];grind
 have E:(v1+v2)*P<=(f-g)*P:=jh q (by omega);have F:(v1+v2)*P=v1*P+v2*P:=by grind
 have G:(f-g)*P=f*P-g*P:=by grind
 have H:0<=u2*α:=lR e c;have I:0<=v2*β:=lR (by omega) j;have J:0<=u1*α:=lR d c;have K:0<=v1*β:=lR i j;have L:v2*β<=v2*(P-1):=jd (by omega) (by omega);have M:v1*β<=v1*(P-1):=jd (by omega) (by omega);have N:u2*α<=v2*(P-1):=oM (jh w c) (jd (by omega) (by omega));have R:v2*(P-1)=v2*P-v2:=by grind
 have S:v1*(P-1)=v1*P-v1:=by grind
 rw[m,n];rcases hu with hu|⟨rfl,rfl,rfl,rfl⟩
 · have O:u1*α<=v1*(P-1):=oM (jh hu c) (jd (by omega) (by omega));generalize u2 * α=x at *
   generalize v2 * β=y at *
   generalize u1 * α=T at *
   generalize v1 * β=U at *
   generalize v2 * P=z at *
   generalize v1 * P=V at *
   generalize g * P=t at *
   generalize f * P=v at *
   rcases r with rfl|rfl <;> omega
 · simp at *
   generalize v2 * β=y at *
   generalize v2 * P=z at *
   generalize g * P=t at *
   generalize f * P=v at *
   omega
theorem Leh.step{b g s q r:Int}(h:Leh a b A Bb P α β f g u1 u2 v1 v2 s)(E:f=q*g+r)(r0:0<=r)(I:r<g)(p:1<=q)(hu:u1<=v1\/(u1=1/\v1=0/\u2=0/\s=1)):Leh a b A Bb P α β g r u2 (u1+q*u2) v2 (v1+q*v2) (-s):=by
 obtain⟨n,o,e,i,j,k,t,C,m,D,l,d,w,v,x,c,z,B,y,J⟩:=h;have F:0<=q*u2:=lR (by omega) c;have G:v2<=q*v2:=by
  have:=jh p (show 0<=v2 by omega);omega
 have H:q*u2<=q*v2:=jd y (by omega);refine⟨n,o,e,i,j,k,by rcases t with rfl | rfl <;> simp,m,r0,by omega,by rw[d];grind,?_,?_,?_,c,by omega,by omega,by omega,?_,by omega⟩
 · have:r=f-q*g:=by omega
   rw[this,l,d];grind
 · have:r=f-q*g:=by omega
   rw[this,<-w];grind
 · have:r=f-q*g:=by omega
   rw[this,<-v];grind
 · rcases hu with hu|⟨rfl,rfl,rfl,_⟩
   · omega
   · simp;omega
theorem guess_le(h1:b<=2*y1)(h0:y0<b)(a:U<y1*b+y0):U/y1<=b+1:=by
 rcases iH (b+1) (U/y1)with h|h
 · exfalso;have h2:(b+2)*y1<=U/y1*y1:=gH _ h;have h3:U/y1*y1<=U:=oA _ _;have h4:(b+2)*y1=y1*b+2*y1:=by grind
   omega
 · exact h
theorem guess_hi(a:g*y1+r=U)(d:q*(y1*b+y0)<=U*b+u)(hu:u<b)(c:r<y1):q<=g:=by
 rcases iH g q with h|h
 · exfalso;have h1:(g+1)*(y1*b+y0)<=q*(y1*b+y0):=gH _ h;have h2:(g+1)*(y1*b+y0)=g*y1*b+y1*b+(g+1)*y0:=by grind
   have h3:U*b=g*y1*b+r*b:=by rw[<-a];grind
   have h4:(r+1)*b<=y1*b:=gH _ c;have h5:(r+1)*b=r*b+b:=by grind
   omega
 · exact h
theorem guess_down(c:g*y1+r=U)(e:q*(y1*b+y0)<=U*b+u)(d:q<b)(a:b<=g\/b*r+u<g*y0):q<g:=by
 rcases a with a|a
 · omega
 · rcases iH q g with h|h
   · exact h
   · exfalso;have h1:g*(y1*b+y0)<=q*(y1*b+y0):=gH _ h;have h2:g*(y1*b+y0)=g*y1*b+g*y0:=by grind
     have h3:U*b=g*y1*b+r*b:=by rw[<-c];grind
     have h4:b*r=r*b:=gV _ _;omega
theorem guess_done(a:g*y1+r=U)(c:U*b+u<(q+1)*(y1*b+y0))(d:g*y0<=b*r+u):g<=q:=by
 rcases iH q g with h|h
 · exfalso;have h1:(q+1)*(y1*b+y0)<=g*(y1*b+y0):=gH _ h;have h2:g*(y1*b+y0)=g*y1*b+g*y0:=by grind
   have h3:U*b=g*y1*b+r*b:=by rw[<-a];grind
   have h4:b*r=r*b:=gV _ _;omega
 · exact h
theorem guess_over(c:b<=r)(a:g<=b)(h0:y0<b):g*y0<=b*r+u:=by
 have h1:g*y0<=b*y0:=gH _ a;have h2:b*y0<=b*r:=iB _ (by omega);omega
theorem digit_lt{y:Nat}(a:U<y)(hu:u<b)(c:q*y<=U*b+u):q<b:=by
 rcases iH q b with h|h
 · exact h
 · exfalso;have h1:b*y<=q*y:=gH _ h;have h2:(U+1)*b<=y*b:=gH _ a;have h3:(U+1)*b=U*b+b:=by grind
   have h4:b*y=y*b:=gV _ _;omega
end Go.Proofs.YtlbmnokpiilfpaaGreatDoor.W
namespace Go.Proofs.YtlbmnokpiilfpaaGreatDoor
open Go Go.RowKit
variable {cs:List Value} {base g n:Nat} {row:Option Nat} {e:TypeId} {a b c w w' w0 w1:World}
def BL(k:IntKind)(x:Nat):Value := .int k (x:Int)
def SlN(k:IntKind)(w:World)(a:Option Addr)(n c:Nat)(xs:List Nat):Prop:=Sl w a n c (xs.map (BL k))
def B3(k:IntKind)(w:World)(g:Nat)(t:TypeId)(xs:List Nat):Prop:=Arr w g t (xs.map (BL k))
section
variable {k:IntKind} {w w':World} {a:Option Addr} {n c:Nat} {xs:List Nat}
theorem SlN.ext(h:SlN k w a n c xs)(e:Ext w w'):SlN k w' a n c xs:=Sl.ext h e
theorem SlN.len(h:SlN k w a n c xs):xs.length=n:=by have:=Sl.len h;simpa using this
theorem SlN.le(h:SlN k w a n c xs):n<=9223372036854775807:=by
 have h1:=Sl.cap h;have h2:=Sl.max h;unfold maxLen at h2;omega
theorem SlN.cap(h:SlN k w a n c xs):n<=c:=Sl.cap h
theorem SlN.nil(k:IntKind)(w:World):SlN k w none 0 0 []:=Sl.nil w
theorem SlN.at(h:SlN k w a n c xs){j:Nat}(m:j<n) :
 ∃ b d,a=some ⟨b,d,none⟩/\∀ i,i<n->w.cell? ⟨b,d+i,none⟩=some (.int k ((xs.getD i 0:Nat):Int)):=by
 obtain⟨b,d,f,g⟩:=Sl.rd h (by omega);refine⟨b,d,f,fun i l => ?_⟩;rw[g i l];have o:=h.len;have e:i<xs.length:=by omega
 simp[e,BL]
theorem SlN.upto(h:SlN k w a n c xs){m:Nat}(b:m<=n):SlN k w a m c (xs.take m):=by
 have:=Sl.upto h b
 rwa[<-pg]at this
theorem Sl.keptR(h:Sl w a n c cs)(j:w.grownBy w' row)(d:blk a=none\/blk a≠row):Sl w' a n c cs:=by
 refine⟨h.len,h.cap,h.max,fun h0 => ?_⟩;obtain⟨b,e,rfl,g⟩:=h.rd h0;refine⟨b,e,rfl,fun i k => ?_⟩;have h1:=g i k;have f:b<w.heap.size:=jq w ⟨b,e+i,none⟩ h1;rcases d with d|d
 · simp[blk]at d
 · rw[kJ (w:=w) (j.block b f d),h1]
theorem SlN.kept(h:SlN k w a n c xs)(d:w.grownBy w' row)(b:blk a=none\/blk a≠row):SlN k w' a n c xs:=Sl.keptR h d b
theorem SlN.fresh(h:SlN k w0 a n c xs){g:Nat}(i:w0.heap.size<=g)(h0:0<n):blk a≠some g:=by
 obtain⟨b,d,rfl,e⟩:=Sl.rd h h0;have f:b<w0.heap.size:=jq w0 ⟨b,d+0,none⟩ (e 0 h0);simp[blk];omega
end
section
variable {k:IntKind} {w w':World} {g:Nat} {t:TypeId} {xs:List Nat}
theorem B3.lt(h:B3 k w g t xs):g<w.heap.size:=Arr.lt h
theorem B3.cell(h:B3 k w g t xs){i:Nat}(hi:i<xs.length):w.cell? ⟨g,i,none⟩=some (.int k ((xs.getD i 0:Nat):Int)):=by
 rw[Arr.cell h (by simpa using hi)];simp[hi,BL]
theorem B3.frozen(h:B3 k w g t xs)(i:Nat):w.frozen? ⟨g,i,none⟩=false:=Arr.frozen h i
theorem B3.set(h:B3 k w g t xs)(i:Nat)(v:Nat):B3 k (w.setCell ⟨g,i,none⟩ (.int k (v:Int))) g t (xs.set i v):=by
 have:=Arr.set h i (BL k v)
 rwa[<-mw]at this
theorem B3.drewN(h:B3 k w g t xs)(n:Nat):B3 k (w.drewN n) g t xs:=Arr.drewN h n
theorem B3.ext(h:B3 k w g t xs)(e:Ext w w'):B3 k w' g t xs:=Arr.ext h e
theorem B3.alloc(h:B3 k w g t xs)(o:Obj):B3 k (w.alloc o) g t xs:=Arr.alloc h o
theorem B3.kept{row:Option Nat}(h:B3 k w g t xs)(a:w.grownBy w' row)(b:some g≠row):B3 k w' g t xs:=Arr.kept h a b
theorem B3.part(h:B3 k w g t xs){o n c:Nat}(e:o+n<=xs.length)(a:n<=c)(d:c<=maxLen):SlN k w (some ⟨g,o,none⟩) n c ((xs.drop o).take n):=by
 refine⟨by simp;omega,a,d,fun _=>⟨g,o,rfl,fun i b => ?_⟩⟩;rw[h.cell (i:=o+i) (by omega)];have h1:i<n:=b;have h2:o+i<xs.length:=by omega
 simp[h1,h2,BL]
theorem B3.sl(h:B3 k w g t xs){n c:Nat}(d:n<=xs.length)(a:n<=c)(b:c<=maxLen):SlN k w (some ⟨g,0,none⟩) n c (xs.take n):=by
 have:=h.part (o:=0) (n:=n) (by omega) a b;simpa using this
end
theorem Own.arr(h:Own w base e (some ⟨g,0,none⟩) n n cs):Arr w g e cs:=by
 have k:=h.len;rcases h.2 with⟨a,_⟩|⟨j,c,b,a,_,d,_,_,f,i⟩
 · simp at a
 · simp only[gW,gK,iV,jp,lI]at a;obtain⟨rfl,rfl⟩:=a;unfold Arr;rw[d];have:b.toList=cs:=by
    rw[<-i];exact(gG (by simp[f])).symm
   rw[<-this]
structure Num(B:Nat)(xs:List Nat)(v:Nat):Prop where
 bnd:W.bnd B xs
 nrm:W.nrm xs
 val:W.val B xs=v
theorem Num.nil(B:Nat):Num B [] 0:=⟨fun x a=>(by simp at a),W.nrm_nil,rfl⟩
theorem Num.trim{B:Nat}{xs:List Nat}{v:Nat}(h:W.bnd B xs)(a:W.val B xs=v):Num B (W.trim xs) v:=⟨W.bnd_trim h,W.trim_nrm xs,by rw[W.trim_val];exact a⟩
def Hy(k:IntKind)(B:Nat)(w:World)(v:Nat)(e:Ending)(w':World):Prop:=∃ a n c xs,e = .returned (.slice a n c)/\Ext w w'/\SlN k w' a n c xs/\Num B xs v
def Az(k:IntKind)(w:World)(base:Nat)(e:TypeId)(g n c:Nat)(xs:List Nat):Prop:=Own w base e (some ⟨g,0,none⟩) n c (xs.map (BL k))
section
variable {k:IntKind} {w w':World} {base:Nat} {e:TypeId} {g n c:Nat} {xs:List Nat}
theorem Az.len(h:Az k w base e g n c xs):xs.length=n:=by have:=Own.len h;simpa using this
theorem Az.le(h:Az k w base e g n c xs):n<=9223372036854775807:=by
 have h1:=Own.cap h;have h2:=(Own.sl h).max;unfold maxLen at h2;omega
theorem Az.lo(h:Az k w base e g n c xs):base<=g:=(Own.lt h (k:=g) rfl).1
theorem Az.lt(h:Az k w base e g n c xs):g<w.heap.size:=(Own.lt h (k:=g) rfl).2
theorem Az.cell(h:Az k w base e g n c xs){i:Nat}(hi:i<n):w.cell? ⟨g,i,none⟩=some (.int k ((xs.getD i 0:Nat):Int)):=by
 have b:=h.len;have a:i<xs.length:=by omega
 rw[Own.cellAt h hi];simp[a,BL]
theorem Az.frozen(h:Az k w base e g n c xs)(i:Nat):w.frozen? ⟨g,i,none⟩=false:=Own.frozenAt h i
theorem Az.set(h:Az k w base e g n c xs)(i v:Nat):Az k (w.setCell ⟨g,i,none⟩ (.int k (v:Int))) base e g n c (xs.set i v):=by
 have:=Own.stored h i (BL k v)
 rwa[<-mw]at this
theorem Az.ext(h:Az k w base e g n c xs)(x:Ext w w'):Az k w' base e g n c xs:=Own.ext h x
theorem Az.drewN(h:Az k w base e g n c xs)(m:Nat):Az k (w.drewN m) base e g n c xs:=Own.drewN h m
theorem Az.mono{a:Nat}(h:Az k w base e g n c xs)(b:a<=base):Az k w a e g n c xs:=Own.mono h b
theorem Az.kept{row:Option Nat}(h:Az k w base e g n c xs)(b:w.grownBy w' row)(a:some g≠row):Az k w' base e g n c xs:=Own.kept h b (Or.inr a)
theorem Az.sl(h:Az k w base e g n c xs):SlN k w (some ⟨g,0,none⟩) n c xs:=Own.sl h
theorem Az.of_zeros(h:Own w base e (some ⟨g,0,none⟩) n c (List.replicate n (.int k 0))):Az k w base e g n c (List.replicate n 0):=by
 unfold Az;rw[lW];exact h
theorem Az.arr(h:Az k w base e g n n xs):B3 k w g e xs:=Own.arr h
theorem B3.own(h:B3 k w g e xs)(a:base<=g)(b:xs.length<=maxLen):Az k w base e g xs.length xs.length xs:=by
 refine⟨by simp,Or.inr ⟨g,xs.length,(xs.map (BL k)).toArray,rfl,a,h,lrf _,b,by simp,?_⟩⟩;rw[km];exact gG (by simp)
end
theorem C8(w:World)(row:Option Nat):w.grownBy w row:=nl w row
theorem JI(h:a.grownBy b row)(k:b.grownBy c row):a.grownBy c row :=
 ⟨k.os.trans h.os,k.tape.trans h.tape,k.output.trans h.output,gJ h.size k.size,fun i e d=>(k.block i (ib e h.size) d).trans (h.block i e d)⟩
theorem Hz(h:a.grownBy b row)(k:Ext b c):a.grownBy c row :=
 ⟨k.os.trans h.os,k.tape.trans h.tape,k.output.trans h.output,gJ h.size k.size,fun i e d=>(k.block (ib e h.size)).trans (h.block i e d)⟩
theorem DP(h:a.grownBy b (some g))(j:Nat)(u:Value):a.grownBy (b.setCell ⟨g,j,none⟩ u) (some g):=JI h (Ar b g j u)
theorem Ext.grownR(h:Ext w w1)(a:w1.grownBy w' (some g))(c:w.heap.size<=g):Ext w w':=h.grown a (fun k b=>by simp only[gK]at b;omega)
end Go.Proofs.YtlbmnokpiilfpaaGreatDoor
