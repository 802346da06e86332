/- Part Py1. -/
import Derived.WalkKit
import Derived.Lib.Hide
import Derived.Deep.Draws
import Derived.Maps.AppendAt
import Derived.Deep.AppendLies
import Derived.RegionTactic
import Derived.OwnWalk
import Derived.Laws.Rows
import Derived.Laws.Tables
import Derived.Laws.CopyRow
import Derived.Laws.IdiomCopy
import Derived.Orders
import Derived.StillTail
import Derived.Shelf.Spec.BitsCarry
import Derived.Shelf.Bits.Mul64
import Derived.Shelf.Small.Bits
import Derived.Test.YtlbmnokpiilfpaaGreatDoorProg
import Derived.Deep.QuietTactic
import Derived.BigQuiet
set_option linter.all false
set_option maxRecDepth 100000
set_option maxHeartbeats 100000000
namespace Go.Proofs.YtlbmnokpiilfpaaGreatDoor
open Go Go.RowKit
variable {f:Act} {ops:Array Oper} {b:Bool} {Q:Exit->Act->World->Prop} {rest:List Oper} {cs cur news vs xs:List Value} {base base' bytes cx g m n:Nat} {o:Oper} {d l s x y:Operand} {A a:Option Addr} {row:Option Nat} {P:Program} {dT e sT t ty:TypeId} {v z:Value} {w w':World}
universe u
def gD:=@Nat.mul_le_mul_left
def gE:=@Nat.mod_lt
def gG:=@Nat.pow_succ
def gI:=@Sem.run_bind
def gL:=@Nat.zero_add
def gO:=@List.length_take
def gP:=@Nat.add_zero
def gQ:=@Nat.lt_or_ge
def gR:=@congrArg
def gS:=@Sem.run_pure
def gV:=@List.mem_cons
def gW:=@Array.getElem?_eq_some_iff
def gZ:=@List.drop_of_length_le
def iE:=@Nat.mul_add
def iF:=@List.getElem_mem
def iH:=@Bool.and_eq_true
def iI:=@wpList_plain
def iP:=@World.block_lt_of_cell?
def iQ:=@Nat.mul_assoc
def iT:=@List.mem_or_eq_of_mem_set
def iY:=@and_true
def iZ:=@List.mem_of_mem_take
def ic:=@Addr.mk.injEq
def ig:=@List.drop_eq_getElem_cons
def il:=@List.mem_append
def io:=@List.length_cons
def ip:=@run_underlying
def iw:=@List.drop_zero
def iy:=@Nat.add_mul
def iz:=@List.map_cons
def j9:=@List.all_eq_true
def jB:=@List.getElem?_cons_zero
def jG:=@Int.mul_le_mul_of_nonneg_right
def jR:=@Nat.mod_add_div
def jS:=@Nat.add_sub_cancel
def jT:=@World.cell?_of_block
def jW:=@List.cons_append
def jZ:=@List.getD_cons_zero
def ja:=@List.contains_iff_mem
def je:=@Option.isSome_iff_exists
def jg:=@List.map_nil
def jk:=@Nat.add_assoc
def jm:=@Option.map_some
def jn:=@Nat.min_eq_left
def jo:=@List.map_toArray
def jr:=@Int.mul_le_mul_of_nonneg_left
def ju:=@Nat.add_comm
def jw:=@Array.getElem?_eq_none
def jx:=@Nat.pow_pos
def jz:=@Array.getD_eq_getD_getElem?
def kA:=@getD_set_true
def kB:=@List.getLast_eq_getElem
def kN:=@List.set_cons_succ
def kc:=@List.getD_cons_succ
def kf:=@List.drop_succ_cons
def kn:=@List.take_append_drop
def ko:=@Array.getElem?_modify
def ks:=@Option.bind_some
def kw:=@List.take_length
def lD:=@List.setIfInBounds_toArray
def lE:=@List.mem_of_mem_drop
def lF:=@List.mem_cons_of_mem
def lH:=@Calls.quiet_of
def lP:=@List.map_replicate
def lS:=@Bool.or_eq_true
def lT:=@Bool.false_eq_true
def lV:=@Array.getElem?_setIfInBounds_ne
def lf:=@Int.mul_nonneg
def lh:=@true_and
def ll:=@List.set_cons_zero
def lu:=@List.length_nil
def mF:=@info_parts
def mI:=@if_false
def mJ:=@getD_set_ne
def mM:=@Nat.lt_irrefl
def mj:=@List.replicate_succ
def mr:=@World.grownBy.refl
def nE:=@Nat.div_mul_le_self
def nG:=@mem_ready
def nH:=@Int.add_sub_cancel
def nI:=@World.ownsRow_lit
def nL:=@Bool.not_eq_true'
def nO:=@List.map_set
def nR:=@Int.le_trans
def nU:=@List.dropLast_concat_getLast
def nj:=@beq_iff_eq
def nw:=@heap_alloc_new
def oB:=@List.map_take
def oK:=@Lib.hid
def oL:=@List.take_of_length_le
def oN:=@List.getElem?_eq_getElem
def oO:=@Nat.mul_le_mul_right
def oP:=@IntWalk.i64_in
def oQ:=@Option.some.injEq
def oS:=@Nat.le_trans
def oT:=@Nat.pow_le_pow_right
def oU:=@Nat.mul_comm
def oV:=@Nat.eq_zero_or_pos
def oW:=@List.take_succ_eq_append_getElem
def oX:=@List.eq_nil_of_length_eq_zero
def oY:=@Nat.zero_le
def oZ:=@List.mem_singleton
def ox:=@bne_iff_ne
def oy:=@Array.size_setIfInBounds
def p9:=@Result.andThen_ok
def pf:=@if_neg
def pg:=@Option.getD_some
def ph:=@Nat.lt_of_lt_of_le
def pk:=@Value.slice.injEq
def pm:=@Classical.byContradiction
def pq:=@if_pos
def pu:=@List.getElem?_eq_none
def pw:=@Nat.zero_mul
def px:=@Nat.mul_one
theorem lq{b:Type u}{a:b}{l:List b}:(a::l).length=l.length+1:=io
theorem lw{a:Type u}:([]:List a).length=0:=lu
theorem lx{b:Type u}{a:b}{l:List b}{i:Nat}:(a::l).drop (i+1)=l.drop i:=kf
theorem lz{a:Type u}{l:List a}:l.drop 0=l:=iw
theorem lj{b:Type u}{a:b}{l:List b}{i:Nat}:l.toArray.setIfInBounds i a=(l.set i a).toArray:=lD _ _ _
theorem lk{b:Type u}{x a:b}{l:List b}{i:Nat}:(x::l).set (i+1) a=x::l.set i a:=kN
theorem ly{b:Type u}{x a:b}{l:List b}:(x::l).set 0 a=a::l:=ll
theorem gqq{a:Type u}{l:List a}{i:Nat}{d:a}:l.getD i d=l[i]?.getD d:=List.getD_eq_getElem?_getD
theorem lrf(n:Nat):n<=n:=Nat.le_refl n
def Ext(w w':World):Prop:=Below w.heap.size w w'
theorem Ext.refl(w:World):Ext w w:=Below.refl _ _
theorem Ext.trans{a b c:World}(h:Ext a b)(k:Ext b c):Ext a c:=Below.trans h (Below.mono k h.size)
theorem Ext.size{w a:World}(h:Ext w a):w.heap.size<=a.heap.size:=Below.size h
theorem Ext.drewN{w a:World}(h:Ext w a)(n:Nat):Ext w (a.drewN n):=⟨h.os,h.tape,h.output,h.size,h.block⟩
theorem Ext.drew{w a:World}(h:Ext w a):Ext w a.drew:=⟨h.os,h.tape,h.output,h.size,h.block⟩
theorem Ext.alloc{w a:World}(h:Ext w a)(o:Obj):Ext w (a.alloc o):=Below.alloc h h.size o
theorem Ext.setCell{w a:World}(h:Ext w a){p:Addr}(hp:w.heap.size<=p.block)(u:Value):Ext w (a.setCell p u):=Below.setCell h hp u
theorem Ext.grown{w b a:World}{row:Option Nat}(h:Ext w b)(c:b.grownBy a row)(d:∀ k,row=some k->w.heap.size<=k):Ext w a :=
 Below.grown h c h.size d
theorem Ext.block{w a:World}(h:Ext w a){k:Nat}(b:k<w.heap.size):a.heap[k]?=w.heap[k]?:=Below.block h k b
theorem Ext.cell{w a:World}(h:Ext w a){p:Addr}{v:Value}(hp:w.cell? p=some v):a.cell? p=some v:=by
 rw[jT (w:=w) (h.block (iP w p hp)),hp]
def Qt(w w':World):Prop:=∃ n,w'=w.drewN n
theorem Qt.refl(w:World):Qt w w:=⟨0,rfl⟩
theorem Qt.drewN{w a:World}(h:Qt w a)(n:Nat):Qt w (a.drewN n):=by
 obtain⟨m,rfl⟩:=h;exact⟨m+n,by rw[World.drewN_drewN]⟩
theorem Qt.drew{w a:World}(h:Qt w a):Qt w a.drew:=h.drewN 1
theorem Qt.trans{a b c:World}(h:Qt a b)(k:Qt b c):Qt a c:=by
 obtain⟨m,rfl⟩:=k;exact h.drewN m
theorem Qt.ext(h:Qt w w'):Ext w w':=by
 obtain⟨m,rfl⟩:=h;exact(Ext.refl w).drewN m
theorem Uu{a:Bool}(h:b=a):Ending.returned (.bool a) = .returned (.bool b):=by rw[h]
theorem Dj{k:IntKind}{a b:Int}(h:b=a):Ending.returned (.int k a) = .returned (.int k b):=by rw[h]
structure Sl(w:World)(a:Option Addr)(n c:Nat)(cs:List Value):Prop where
 len:cs.length=n
 cap:n<=c
 max:c<=maxLen
 rd:0<n->∃ b off,a=some ⟨b,off,none⟩/\∀ i,i<n->w.cell? ⟨b,off+i,none⟩=some (cs.getD i undef)
theorem Sl.ext{c:Nat}(h:Sl w a n c cs)(e:Ext w w'):Sl w' a n c cs :=
 ⟨h.len,h.cap,h.max,fun h0=>let ⟨b,off,ha,hc⟩:=h.rd h0;⟨b,off,ha,fun i d=>e.cell (hc i d)⟩⟩
theorem Sl.nil(w:World):Sl w none 0 0 []:=⟨rfl,lrf _,oY _,fun h=>absurd h (mM _)⟩
def SlI(w:World)(a:Option Addr)(n c:Nat)(xs:List Int):Prop:=Sl w a n c (xs.map (Value.int .i64))
theorem SlI.ext{w b:World}{a:Option Addr}{n c:Nat}{xs:List Int}(h:SlI w a n c xs)(e:Ext w b):SlI b a n c xs:=Sl.ext h e
theorem SlI.len{w:World}{a:Option Addr}{n c:Nat}{xs:List Int}(h:SlI w a n c xs):xs.length=n:=by
 have:=Sl.len h;simpa using this
theorem SlI.le{c:Nat}{xs:List Int}(h:SlI w a n c xs):n<=9223372036854775807:=by
 have h1:=Sl.cap h;have h2:=Sl.max h;unfold maxLen at h2;omega
theorem SlI.at{c:Nat}{xs:List Int}(h:SlI w a n c xs){k:Nat}(l:k<n) :
 ∃ b d,a=some ⟨b,d,none⟩/\∀ i,i<n->w.cell? ⟨b,d+i,none⟩=some (.int .i64 (xs.getD i 0)):=by
 obtain⟨b,d,f,g⟩:=Sl.rd h (by omega);refine⟨b,d,f,fun i j => ?_⟩;rw[g i j];have m:=h.len;have e:i<xs.length:=by omega
 simp[e]
theorem Sl.of_owns{v c:Nat}(h:w.ownsRow base e 1 (.slice a n c) v cs):Sl w a n c cs:=by
 obtain⟨j,h⟩:=h;rcases h with⟨d,s⟩|⟨g,l,b,d,x,o,k,r,y,t⟩
 · simp only[pk]at d;obtain⟨rfl,rfl,rfl⟩:=d;subst s;have:cs=[]:=by simpa using j
   subst this;exact Sl.nil w
 · simp only[pk]at d;obtain⟨rfl,rfl,rfl⟩:=d;refine⟨by simpa using j,k,r,fun _=>⟨g,0,rfl,fun i p => ?_⟩⟩;have q:cs.length=n:=by simpa using j
   have m:cs.getD i undef=b.toList.getD i undef:=by
    rw[<-t];simp[p]
   have f:i<b.size:=by omega
   rw[m];simp[World.cell?,o,f]
theorem Ma{size:Nat}(h:w.ownsRow base e size v n xs)(k:Ext w w'):w'.ownsRow base e size v n xs:=by
 obtain⟨h1,h2⟩:=h;refine⟨h1,?_⟩;rcases h2 with h2|⟨g,a,b,i,f,d,r⟩
 · exact Or.inl h2
 · refine Or.inr ⟨g,a,b,i,f,?_,r⟩;have c:g<w.heap.size:=by
    rcases gQ g w.heap.size with h|h
    · exact h
    · simp[jw h]at d
   rw[k.block c,d]
def Own(w:World)(base:Nat)(e:TypeId)(a:Option Addr)(n c:Nat)(cs:List Value):Prop:=w.ownsRow base e 1 (.slice a n c) n cs
def BM(P:Program)(e:TypeId)(z:Value)(bytes:Nat):Prop :=
 (P.info? e).map (fun i=>(i.zero,i.size,i.bytes))=some (some z,1,bytes)
def blk(a:Option Addr):Option Nat:=a.map (·.block)
section
variable {w w':World} {base:Nat} {e:TypeId} {a:Option Addr} {n c:Nat} {cs:List Value}
theorem Own.sl(h:Own w base e a n c cs):Sl w a n c cs:=Sl.of_owns h
theorem Own.ext(h:Own w base e a n c cs)(k:Ext w w'):Own w' base e a n c cs:=Ma h k
theorem Own.len(h:Own w base e a n c cs):cs.length=n:=h.sl.len
theorem Own.cap(h:Own w base e a n c cs):n<=c:=h.sl.cap
theorem Own.nil(w:World)(base:Nat)(e:TypeId):Own w base e none 0 0 []:=World.ownsRow_nil w base e 1
theorem Own.lt(h:Own w base e a n c cs){k:Nat}(d:blk a=some k):base<=k/\k<w.heap.size:=by
 refine World.ownsRow.lt h k ?_;cases a with
 | none=>simp[blk]at d
 | some b=>simpa[blk,Value.ownBlock]using d
theorem Own.mono(h:Own w base e a n c cs)(i:base'<=base):Own w base' e a n c cs:=by
 obtain⟨h1,h2⟩:=h;refine⟨h1,?_⟩;rcases h2 with h2|⟨g,b,d,f,j,r⟩
 · exact Or.inl h2
 · exact Or.inr ⟨g,b,d,f,by omega,r⟩
theorem Own.kept{row:Option Nat}(h:Own w base e a n c cs)(f:w.grownBy w' row)(d:blk a=none\/blk a≠row):Own w' base e a n c cs:=by
 refine World.ownsRow.kept h f ?_;cases a with
 | none=>left;rfl
 | some b=>right;rcases d with h | h
           · simp[blk]at h
           · simpa[blk,Value.ownBlock]using h
theorem Own.drewN(h:Own w base e a n c cs)(k:Nat):Own (w.drewN k) base e a n c cs:=h
theorem Own.alloc(h:Own w base e a n c cs)(o:Obj):Own (w.alloc o) base e a n c cs:=World.ownsRow.alloc h o
theorem Own.place(h:Own w base e a n c cs)(k:0<n):∃ g,a=some ⟨g,0,none⟩/\base<=g/\g<w.heap.size:=by
 rcases h.2 with⟨_,h0⟩|⟨g,d,f,b,i,j,_⟩
 · omega
 · simp only[pk]at b;refine⟨g,b.1,i,?_⟩;rcases gQ g w.heap.size with h|h
   · exact h
   · simp[jw h]at j
end
section
variable {w:World} {base:Nat} {e:TypeId} {g n c:Nat} {cs:List Value}
theorem Own.cellAt(h:Own w base e (some ⟨g,0,none⟩) n c cs){j:Nat}(a:j<n):w.cell? ⟨g,j,none⟩=some (cs.getD j undef):=by
 have h1:=World.ownsRow.cellAt h j (by omega);have h2:j<cs.length:=by have:=h.len;omega
 rw[h1];simp[h2]
theorem Own.frozenAt(h:Own w base e (some ⟨g,0,none⟩) n c cs)(j:Nat):w.frozen? ⟨g,j,none⟩=false:=World.ownsRow.frozenAt h j
theorem Own.stored(h:Own w base e (some ⟨g,0,none⟩) n c cs)(j:Nat)(u:Value) :
 Own (w.setCell ⟨g,j,none⟩ u) base e (some ⟨g,0,none⟩) n c (cs.set j u):=(World.ownsRow.stored h j u).1
end
theorem Ay(w:World)(base:Nat)(e:TypeId)(cs:Array Value)(n:Nat)(b:cs.size=n)(a:base<=w.heap.size)(c:n<=1000000) :
 Own (w.alloc (.cells cs e)) base e (some ⟨w.heap.size,0,none⟩) n n cs.toList:=by
 subst b;exact nI w cs cs.size a (by unfold maxLen;omega) (by omega)
theorem Own.drew{w:World}{base:Nat}{e:TypeId}{a:Option Addr}{n c:Nat}{cs:List Value}(h:Own w base e a n c cs):Own w.drew base e a n c cs:=h
theorem Sl.drew{w:World}{a:Option Addr}{n c:Nat}{cs:List Value}(h:Sl w a n c cs):Sl w.drew a n c cs:=h.ext (Ext.refl w).drew
theorem Sl.alloc{w:World}{a:Option Addr}{n c:Nat}{cs:List Value}(h:Sl w a n c cs)(o:Obj):Sl (w.alloc o) a n c cs:=h.ext ((Ext.refl w).alloc o)
theorem Sl.upto{c:Nat}(h:Sl w a n c cs){k:Nat}(j:k<=n):Sl w a k c (cs.take k):=by
 refine⟨by have:=h.len;simp;omega,by have:=h.cap;omega,h.max,fun h0 => ?_⟩;obtain⟨b,d,e,f⟩:=h.rd (by omega);refine⟨b,d,e,fun i g => ?_⟩;rw[f i (by omega)];simp[g]
theorem Sl.from{c:Nat}(h:Sl w a n c cs){k:Nat}(l:k<=n) :
 Sl w (if c=k then a else a.map (fun x=>x.add k)) (n-k) (c-k) (cs.drop k):=by
 refine⟨by have:=h.len;simp;omega,by have:=h.cap;omega,by have:=h.max;omega,fun h0 => ?_⟩;obtain⟨b,d,f,g⟩:=h.rd (by omega);subst f;have e:=h.cap;rw[pf (by omega)];refine⟨b,d+k,?_,fun i j => ?_⟩
 · simp only[jm,Addr.add];by_cases h0:k=0 <;> simp[h0]
 · rw[jk,g (k+i) (by omega)];simp
theorem Am(w:World)(g j:Nat)(u:Value):w.grownBy (w.setCell ⟨g,j,none⟩ u) (some g) :=
 ⟨rfl,rfl,rfl,by simp[World.setCell],fun k _ a=>by
  simp only[World.setCell,ko]
  rw[pf (by rintro rfl;exact a rfl)]⟩
def Arr(w:World)(g:Nat)(t:TypeId)(cs:List Value):Prop:=w.heap[g]?=some (.cells cs.toArray t (0,0))
section
variable {w w':World} {g:Nat} {t:TypeId} {cs:List Value}
theorem Arr.lt(h:Arr w g t cs):g<w.heap.size:=by
 rcases gQ g w.heap.size with b|a
 · exact b
 · unfold Arr at h;rw[jw a]at h;cases h
theorem Arr.cell(h:Arr w g t cs){i:Nat}(hi:i<cs.length):w.cell? ⟨g,i,none⟩=some (cs.getD i undef):=by
 unfold Arr at h;simp[World.cell?,h,hi]
theorem Arr.c(h:Arr w g t cs)(i:Nat){v:Value}(a:cs[i]?=some v):w.cell? ⟨g,i,none⟩=some v:=by
 rw[h.cell (i:=i) (by rcases gQ i cs.length with h | h;exact h;simp[pu h]at a),gqq,a];rfl
theorem Arr.frozen(h:Arr w g t cs)(i:Nat):w.frozen? ⟨g,i,none⟩=false:=by
 unfold Arr at h;simp[World.frozen?,h]
theorem Arr.new(w:World)(t:TypeId)(cs:List Value):Arr (w.alloc (.cells cs.toArray t)) w.heap.size t cs:=nw w _
theorem Arr.set(h:Arr w g t cs)(i:Nat)(u:Value):Arr (w.setCell ⟨g,i,none⟩ u) g t (cs.set i u):=by
 unfold Arr at h |-;simp[World.setCell,ko,h]
theorem Arr.sl(h:Arr w g t cs){k:Nat}(b:k<=cs.length)(c:cs.length<=maxLen):Sl w (some ⟨g,0,none⟩) k cs.length (cs.take k):=by
 refine⟨by simp;omega,b,c,fun _=>⟨g,0,rfl,fun i a => ?_⟩⟩;rw[gL,h.cell (by omega)];simp[a]
theorem Arr.ext(h:Arr w g t cs)(k:Ext w w'):Arr w' g t cs:=(k.block h.lt).trans h
theorem Arr.kept(h:Arr w g t cs)(a:w.grownBy w' row)(b:some g≠row):Arr w' g t cs:=(a.block g h.lt b).trans h
theorem Arr.drewN(h:Arr w g t cs)(n:Nat):Arr (w.drewN n) g t cs:=h
theorem Arr.alloc(h:Arr w g t cs)(o:Obj):Arr (w.alloc o) g t cs:=(Below.heap_alloc w o g h.lt).trans h
theorem Arr.far(h:Arr w g t cs){p:Addr}(hp:g≠p.block)(u:Value):Arr (w.setCell p u) g t cs:=(Below.heap_setCell w p u g hp).trans h
end
section
variable {P:Program} {w:World}
theorem OP{c:Nat} 
 (I:P.underlying t=some (.slice e)) (v:BM P e z bytes) (J:z.cells.size=1) (d:Own w base e a n c xs) (f:Sl w A m cx news)
 (h1:∀ u∈news,u.oneCell'=true) (h63:n+m<=maxLen) (k:(n+m)*bytes<=140737488355328) (s:base<=w.heap.size) :
 ∃ C L y,(Builtin.append_ #[t,t] ty #[.slice a n c,.slice A m cx]).run P w = .ok (.slice C (n+m) L) y/\Own y base e C (n+m) L (xs ++ news) /\
  w.grownBy y (blk a)/\(blk C=blk a\/blk C=some w.heap.size):=by
 obtain⟨i,F,Q,x,E⟩:=mF v;have p:(Value.slice a n c).ownBlock=blk a:=by cases a <;> rfl
 rcases A with _|K
 · have N:m=0:=by
    rcases oV m with h0|h0
    · exact h0
    · obtain⟨b,o,h,_⟩:=f.rd h0;cases h
   subst N;have O:news=[]:=oX f.len;subst O;refine⟨a,c,w,?_,by simpa using d,mr w _,.inl rfl⟩;rcases d.2 with⟨q,rfl⟩|⟨g,B,D,q,_,_,H,_⟩
   · simp only[pk]at q;obtain⟨rfl,_,rfl⟩:=q;simp[Builtin.append_,ip I,sizeOf,typeInfo,F,Builtin.lenOf,Builtin.firstCells]
   · simp only[pk]at q;obtain⟨rfl,_,rfl⟩:=q;simp[Builtin.append_,ip I,sizeOf,typeInfo,F,Builtin.lenOf,Builtin.firstCells,H,storeCells]
 · have l:∀ j u,news[j]?=some u->w.cell? (K.add j)=some u:=by
    intro j u hu;have R:j<news.length:=by
     rcases gQ j news.length with h|h
     · exact h
     · simp[pu h]at hu
    have G:j<m:=by have:=f.len;omega
    obtain⟨b,o,h,M⟩:=f.rd (by omega);injection h with h;subst h;have h2:=M j G;have h3:news.getD j undef=u:=by rw[gqq,hu];rfl
    rw[h3]at h2;rw[<-h2];unfold Addr.add;by_cases h0:j=0 <;> simp[h0]
   obtain⟨S,y,r,h2,h3,_,h5⟩:=run_append_own_at (P:=P) w base t ty e i z 1 bytes I F Q x E J (by omega) (.slice a n c) n xs d K m cx news (by have:=f.len;omega) l h1 h63 k s;rcases h2.2 with⟨q,h0⟩|⟨g,B,D,q,_⟩
   · subst q;refine⟨none,0,y,by rw[r,h0],?_,by rw[<-p];exact h3,by rw[<-p];exact h5⟩;unfold Own;rw[h0]at h2 |-;exact h2
   · subst q;exact⟨_,B,y,r,h2,by rw[<-p];exact h3,by rw[<-p];exact h5⟩
theorem Uv{K:Act->World->Prop} 
 (y:o.op = .call { callee := .builtin .append,args:=#[s,x],argTypes:=#[t,t] })
 {e:TypeId} {z:Value} {bytes base:Nat} {a:Option Addr} {n c:Nat} {xs:List Value} {A:Option Addr} {m v:Nat} {news:List Value}
 (C:P.underlying t=some (.slice e)) (g:BM P e z bytes) (r:z.cells.size=1) (B:f.eval s = .slice a n c) (j:Own w base e a n c xs) (D:f.eval x = .slice A m v) (q:Sl w A m v news)
 (h1:∀ u∈news,u.oneCell'=true) (h63:n+m<=maxLen) (b:(n+m)*bytes<=140737488355328) (d:base<=w.heap.size)
 (h:∀ i p l,Own l base e i (n+m) p (xs ++ news)->w.grownBy l (blk a)->(blk i=blk a\/blk i=some w.heap.size)->K (f.put o.dst (.slice i (n+m) p)) l):o.wp P f w K Q:=by
 obtain⟨i,p,l,k,h2,h3,h4⟩:=OP (P:=P) (ty:=o.type) C g r j q h1 h63 b d;unfold Oper.wp execOp;simp only[y,resolve,invoke,builtin,gI,gS,p9,jo,iz,jg,B,D,k];exact h i p l h2 h3 h4
theorem BB(p:o.guard=none)
 (B:o.op = .call { callee := .builtin .append,args:=#[s,x],argTypes:=#[t,t] })
 {e:TypeId} {z:Value} {bytes base:Nat} {a:Option Addr} {n c:Nat} {xs:List Value} {A:Option Addr} {m v:Nat} {news:List Value}
 (D:P.underlying t=some (.slice e)) (g:BM P e z bytes) (r:z.cells.size=1) (C:f.eval s = .slice a n c) (j:Own w base e a n c xs) (E:f.eval x = .slice A m v) (q:Sl w A m v news)
 (h1:∀ u∈news,u.oneCell'=true) (h63:n+m<=maxLen) (b:(n+m)*bytes<=140737488355328) (d:base<=w.heap.size)
 (h:∀ i l k,Own k base e i (n+m) l (xs ++ news)->w.grownBy k (blk a)->(blk i=blk a\/blk i=some w.heap.size)->wpList P ops Q rest (f.put o.dst (.slice i (n+m) l)) k) :
 wpList P ops Q (o :: rest) f w :=
 iI p fun _ y=>Uv B D g r C j E q h1 h63 b d fun i l k h2 h3 h4=>y _ _ (h i l k h2 h3 h4)
theorem Uw(k:P.underlying t=some (.slice e))(a:BM P e z bytes)(f:z.cells=#[z])(g:bytes*n<=281474976710656)(h63:n<=maxLen) :
 ∃ c,(Instr.makeSlice t (.int .i64 n) (.int .i64 n)).run P w = .ok (.slice (some ⟨w.heap.size,0,none⟩) n n) c/\Own c w.heap.size e (some ⟨w.heap.size,0,none⟩) n n (List.replicate n z)/\Ext w c:=by
 obtain⟨i,j,l,b,d⟩:=mF a;obtain⟨c,h1,h2,h3⟩:=run_make_full (P:=P) w w.heap.size t e i z 1 k j l b .i64 .i64 n (by rw[d];exact g) h63 (lrf _);refine⟨c,h1,?_,(Ext.refl w).grown h3 (by simp)⟩;rw[px,f,toList_madeCells_one]at h2;exact h2
theorem C1{c:Operand}(q:o.guard=none)(i:o.op=Op.makeSlice t l c)
 {e:TypeId} {z:Value} {bytes n:Nat} (s:P.underlying t=some (.slice e)) (a:BM P e z bytes) (j:z.cells=#[z]) (r:f.eval l = .int .i64 n) (p:f.eval c = .int .i64 n)
 (m:bytes*n<=281474976710656) (h63:n<=maxLen)
 (k:∀ d,Own d w.heap.size e (some ⟨w.heap.size,0,none⟩) n n (List.replicate n z)->Ext w d->wpList P ops Q rest (f.put o.dst (.slice (some ⟨w.heap.size,0,none⟩) n n)) d) :
 wpList P ops Q (o :: rest) f w:=by
 refine iI q fun K g => ?_;obtain⟨d,b,h2,h3⟩:=Uw (P:=P) (w:=w) s a j m h63;unfold Oper.wp execOp;simp only[i,gI,gS,p9,r,p,b,Oper.upon];exact g _ _ (k d h2 h3)
end
def Agg(P:Program)(ty:TypeId)(n:Nat):Prop :=
 (P.underlying ty).map (fun d=>match d with | .struct _ | .array _ _=>true | _=>false)=some true/\(P.info? ty).map (·.size)=some n
theorem Agg.parts(h:Agg P ty n) :
 ∃ d,P.underlying ty=some d/\(match d with | .struct _ | .array _ _=>true | _=>false)=true/\(P.info? ty).map (·.size)=some n:=by
 obtain⟨h1,h2⟩:=h;cases hu:P.underlying ty with
 | none=>rw[hu]at h1;cases h1
 | some d =>
  rw[hu]at h1;exact⟨d,rfl,by simpa using h1,h2⟩
theorem Bs(w:World)(g:Nat)(cs:Array Value):w.grownBy (w.setRow g cs) (some g):=by
 refine⟨rfl,rfl,rfl,by simp[World.setRow],fun k _ a => ?_⟩;simp only[World.setRow,ko];rw[pf (by rintro rfl;exact a rfl)]
theorem B0(h:Arr w g t cs)(vs:List Value):Arr (w.setRow g vs.toArray) g t vs:=by
 unfold Arr at h |-;simp[World.setRow,ko,h]
section
variable {P:Program} {w:World}
theorem Mb(a:Agg P ty cs.length)(h:Arr w g t cs) :
 (Instr.loadAt ty (.pointer (some ⟨g,0,none⟩))).run P w = .ok (.agg cs.toArray) w:=by
 obtain⟨d,hu,b,c⟩:=a.parts;have:=run_loadVar_row (P:=P) w g t ty cs.toArray (0,0) d h hu (by cases d <;> first | rfl | exact absurd b (by simp)) (by simpa using c);simp[Instr.loadAt,Instr.sureAddr,this]
theorem Dc(a:Agg P ty vs.length)(h:Arr w g t cs)(c:cs.length=vs.length)(h1:∀ v∈vs,v.oneCell'=true) :
 (Instr.storeAt ty (.pointer (some ⟨g,0,none⟩)) (.agg vs.toArray)).run P w = .ok () (w.setRow g vs.toArray):=by
 obtain⟨d,hu,e,b⟩:=a.parts;have:=run_storeVar_row (P:=P) w g t ty cs.toArray vs.toArray h (by simpa using b) (by simpa using c) (by simpa using h1);simp[Instr.storeAt,Instr.sureAddr,this]
theorem EM(b:o.guard=none)(e:o.op = .load ty x)
 {g:Nat} {t:TypeId} {cs:List Value} (d:Agg P ty cs.length) (i:f.eval x = .pointer (some ⟨g,0,none⟩)) (h:Arr w g t cs)
 (c:wpList P ops Q rest (f.put o.dst (.agg cs.toArray)) w):wpList P ops Q (o :: rest) f w:=by
 refine iI b fun K a => ?_;unfold Oper.wp execOp;simp only[e,i,gI,Mb d h,p9,gS,Oper.upon];exact a _ _ c
theorem Aa(b:o.guard=none)(k:o.op = .store ty x y)
 {g:Nat} {t:TypeId} {cs vs:List Value} {va:Array Value} (l:f.eval x = .pointer (some ⟨g,0,none⟩)) (m:f.eval y = .agg va) (c:va=vs.toArray) (i:Agg P ty vs.length) (h:Arr w g t cs)
 (j:cs.length=vs.length) (h1:∀ v∈vs,v.oneCell'=true)
 (e:∀ d,Arr d g t vs->w.grownBy d (some g)->wpList P ops Q rest (f.put o.dst undef) d):wpList P ops Q (o :: rest) f w:=by
 subst c;refine iI b fun K a => ?_;unfold Oper.wp execOp;simp only[k,l,m,gI,Dc i h j h1,p9,gS,Oper.upon];exact a _ _ (e _ (B0 h vs) (Bs w g _))
theorem Ai{b:Func}{p:Tmp}(i:b.results=#[.cell p ty]){a:Array Value}{g:Nat}{t:TypeId}{cs:List Value}(c:Agg P ty cs.length)
 (hp:a.getD p undef = .pointer (some ⟨g,0,none⟩)) (h:Arr w g t cs):(results b a).run P w = .ok (.agg cs.toArray) w:=by
 obtain⟨d,hu,e,f⟩:=c.parts;exact results_cell_row i a w g t cs.toArray (0,0) d hp h hu (by cases d <;> first | rfl | exact absurd e (by simp)) (by simpa using f)
theorem Ux{o l dc c:Nat}(y:P.underlying dT=some (.slice e))(f:BM P e z bytes)
 (h:Arr w g t cur) (x:Sl w A m c cs) (G:m<=l) (s:o+m<=cur.length) (h1:∀ v∈cs,v.oneCell'=true) :
 ∃ r,(Builtin.copy_ #[dT,sT] ty #[.slice (some ⟨g,o,none⟩) l dc,.slice A m c]).run P w = .ok (goInt m) r/\Arr r g t (cur.take o ++ cs ++ cur.drop (o+m))/\w.grownBy r (some g):=by
 obtain⟨i,F,I,k,D⟩:=mF f;have p:(P.info? e).map (·.size)=some 1:=by simp[F,k]
 have d:=x.len;by_cases h0:m=0
 · subst h0;have:cs=[]:=oX d;subst this;refine⟨w,run_copy_none w dT sT ty e _ _ l dc 0 c y p (by simp),?_,⟨rfl,rfl,rfl,lrf _,fun _ _ _=>rfl⟩⟩;simpa using h
 · obtain⟨b,q,C,E⟩:=x.rd (by omega);subst C;have n:m.min l=m:=jn G
   have:=run_copy_row (P:=P) w dT sT ty e g o l dc ⟨b,q,none⟩ m c cur.toArray t cs y p h (by rw[n];exact d) (by
    intro j v B;have H:j<cs.length:=by
     rcases gQ j cs.length with h|h
     · exact h
     · simp[pu h]at B
    have h2:=E j (by omega);rw[gqq,B]at h2;rw[<-pg (a:=v) (b:=undef),<-h2.symm.symm];unfold Addr.add
    by_cases h3:j=0 <;> simp[h3]at h2 |- <;> exact h2) (by simp;omega) h1
   refine⟨_,?_,B0 h _,Bs w g _⟩;rw[this,d]
theorem Ks(n:o.guard=none)
 (C:o.op = .call { callee := .builtin .copy,args:=#[d,s],argTypes:=#[dT,sT] })
 {e:TypeId} {z:Value} {bytes g p r dc m c:Nat} {A:Option Addr} {t:TypeId} {a cs:List Value} (E:P.underlying dT=some (.slice e)) (b:BM P e z bytes)
 (y:f.eval d = .slice (some ⟨g,p,none⟩) r dc) (q:f.eval s = .slice A m c)
 (h:Arr w g t a) (D:Sl w A m c cs) (B:m<=r) (i:p+m<=a.length) (h1:∀ v∈cs,v.oneCell'=true)
 (x:∀ k,Arr k g t (a.take p ++ cs ++ a.drop (p+m))->w.grownBy k (some g)->wpList P ops Q rest (f.put o.dst (goInt m)) k):wpList P ops Q (o :: rest) f w:=by
 refine iI n fun K l => ?_;obtain⟨k,j,h2,h3⟩:=Ux (P:=P) (ty:=o.type) (sT:=sT) (dc:=dc) E b h D B i h1;unfold Oper.wp execOp;simp only[C,resolve,invoke,builtin,gI,gS,p9,jo,iz,jg,y,q,j,Oper.upon];exact l _ _ (x k h2 h3)
end
end Go.Proofs.YtlbmnokpiilfpaaGreatDoor
namespace Go.Proofs.YtlbmnokpiilfpaaGreatDoor.W
variable {A Bb P a f u1 u2 v1 v2 α β:Int} {l xs ys:List Nat} {B D U V W b c c' d2 g i k lo lo' q r s u w3 x y0 y1:Nat}
def val(B:Nat):List Nat->Nat
 | []=>0
 | x :: r=>x+B*val B r
def bnd(B:Nat)(xs:List Nat):Prop:=∀ x∈xs,x<B
def nrm(xs:List Nat):Prop:=∀ h:xs≠[],xs.getLast h≠0
theorem val_app(B:Nat):∀ a b:List Nat,val B (a ++ b)=val B a+B^a.length*val B b
 | [],b=>by simp[val]
 | x :: a,b=>by
  simp only[jW,val,val_app B a b,io,gG]
  grind
theorem val_snoc(B:Nat)(xs:List Nat)(x:Nat):val B (xs ++ [x])=val B xs+B^xs.length*x:=by
 rw[val_app];simp[val]
theorem val_zeros(B:Nat):∀ n,val B (List.replicate n 0)=0
 | 0=>rfl
 | n+1=>by simp[mj,val,val_zeros B n]
theorem val_lt{B:Nat}:∀ {xs:List Nat},bnd B xs->val B xs<B^xs.length
 | [],_=>by simp[val]
 | x :: xs,h=>by
  have h1:x<B:=h x (by simp);have h2:=val_lt (xs:=xs) (fun y a=>h y (by simp[a]));simp only[val,io,gG];have:B*(val B xs+1)<=B*B^xs.length:=gD _ h2
  grind
theorem val_set{B:Nat}:∀ {xs:List Nat} {i:Nat} {v:Nat},i<xs.length->val B (xs.set i v)+B^i*xs.getD i 0=val B xs+B^i*v
 | [],_,_,h=>by simp at h
 | x :: xs,0,v,_=>by simp[val];omega
 | x :: xs,i+1,v,h=>by
  have:=val_set (B:=B) (xs:=xs) (i:=i) (v:=v) (by simpa using h);simp only[kN,val,kc,gG]
  grind
theorem bnd_set(h:bnd B xs){i v:Nat}(a:v<B):bnd B (xs.set i v):=by
 intro x b;rcases iT b with h1|h1
 · exact h x h1
 · rw[h1];exact a
theorem bnd_at(h:bnd B xs){i:Nat}(hi:i<xs.length):xs.getD i 0<B:=by
 rw[gqq,oN hi];exact h _ (iF hi)
theorem bnd_app(h:bnd B xs)(k:bnd B ys):bnd B (xs ++ ys):=by
 intro x a;rcases il.1 a with h1|h1
 · exact h x h1
 · exact k x h1
theorem bnd_take(h:bnd B xs)(n:Nat):bnd B (xs.take n):=fun x a=>h x (iZ a)
theorem bnd_drop(h:bnd B xs)(n:Nat):bnd B (xs.drop n):=fun x a=>h x (lE a)
theorem val_take_succ(hi:i<xs.length):val B (xs.take (i+1))=val B (xs.take i)+B^i*xs.getD i 0:=by
 rw[oW hi,val_snoc,gO,jn (by omega),gqq,oN hi];rfl
theorem val_split(xs:List Nat)(n:Nat)(h:n<=xs.length):val B xs=val B (xs.take n)+B^n*val B (xs.drop n):=by
 conv=>lhs;rw[<-kn n xs]
 rw[val_app,gO,jn h]
def trimTo(xs:List Nat):Nat->List Nat
 | 0=>[]
 | n+1=>if xs.getD n 0=0 then trimTo xs n else xs.take (n+1)
def trim(xs:List Nat):List Nat:=trimTo xs xs.length
theorem II{B:Nat}{xs:List Nat}:∀ {n:Nat},n<=xs.length->val B (trimTo xs n)=val B (xs.take n)
 | 0,_=>by simp[trimTo,val]
 | n+1,h=>by
  unfold trimTo;split
  · rename_i h0;rw[II (by omega),val_take_succ (by omega),h0];simp
  · rfl
theorem trim_val(xs:List Nat):val B (trim xs)=val B xs:=by
 rw[trim,II (lrf _),kw]
theorem IJ{xs:List Nat}:∀ {n:Nat},n<=xs.length->nrm (trimTo xs n)
 | 0,_=>by intro h;simp[trimTo]at h
 | n+1,h=>by
  unfold trimTo;split
  · exact IJ (by omega)
  · rename_i h0;intro hne;rw[kB];have hl:(xs.take (n+1)).length=n+1:=by rw[gO];omega
    simp only[hl,jS,List.getElem_take];simpa[oN (show n<xs.length by omega)]using h0
theorem trim_nrm(xs:List Nat):nrm (trim xs):=IJ (lrf _)
theorem trimTo_prefix{xs:List Nat}:∀ {n:Nat},n<=xs.length->∃ k,k<=n/\trimTo xs n=xs.take k
 | 0,_=>⟨0,lrf _,by simp[trimTo]⟩
 | n+1,h=>by
  unfold trimTo;split
  · obtain⟨k,h1,h2⟩:=trimTo_prefix (xs:=xs) (n:=n) (by omega);exact⟨k,by omega,h2⟩
  · exact⟨n+1,lrf _,rfl⟩
theorem bnd_trim(h:bnd B xs):bnd B (trim xs):=by
 obtain⟨k,_,e⟩:=trimTo_prefix (xs:=xs) (n:=xs.length) (lrf _);rw[trim,e];exact bnd_take h k
theorem nrm_pos(_hB:0<B){xs:List Nat}(h:nrm xs)(a:xs≠[]):B^(xs.length-1)<=val B xs:=by
 have e:xs=xs.dropLast ++ [xs.getLast a]:=(nU a).symm;have b:=h a;have h1:val B xs=val B xs.dropLast+B^(xs.length-1)*xs.getLast a:=by
  conv=>lhs;rw[e]
  rw[val_snoc,List.length_dropLast]
 have:B^(xs.length-1)*1<=B^(xs.length-1)*xs.getLast a:=gD _ (by omega);omega
theorem nrm_zero(b:0<B){xs:List Nat}(h:nrm xs):val B xs=0<->xs=[]:=by
 constructor
 · intro h0;refine pm fun a => ?_;have:=nrm_pos b h a;have:=jx (n:=xs.length-1) b;omega
 · rintro rfl;rfl
theorem len_lt(d:1<B){xs ys:List Nat}(b:bnd B xs)(c:nrm ys)(h:xs.length<ys.length):val B xs<val B ys:=by
 have h1:=val_lt b;have a:ys≠[]:=by intro e;rw[e]at h;simp at h
 have h2:=nrm_pos (B:=B) (by omega) c a;have h3:B^xs.length<=B^(ys.length-1):=oT (by omega) (by omega);omega
theorem nrm_len(b:1<B){xs:List Nat}(h:nrm xs){n:Nat}(c:val B xs<B^n):xs.length<=n:=by
 rcases gQ n xs.length with h1|h1
 · have a:xs≠[]:=by intro e;rw[e]at h1;simp at h1
   have h2:=nrm_pos (B:=B) (by omega) h a;have h3:B^n<=B^(xs.length-1):=oT (by omega) (by omega);omega
 · exact h1
theorem nrm_nil:nrm []:=fun h=>absurd rfl h
theorem nrm_single(h:x≠0):nrm [x]:=fun _=>h
section
variable {B:Nat}
theorem add_step(f:k<l.length)(g:k<ys.length)(h:val B l+c*B^k=V+val B (ys.take k))(e:s+B*c'=l.getD k 0+ys.getD k 0+c) :
 val B (l.set k s)+c'*B^(k+1)=V+val B (ys.take (k+1)):=by
 have h1:=val_set (B:=B) (xs:=l) (i:=k) (v:=s) f;have h2:=val_take_succ (B:=B) g;rw[h2,gG];generalize l.getD k 0=x at *
 generalize ys.getD k 0=y at *
 generalize val B (l.set k s)=a at *
 generalize val B l=b at *
 generalize val B (ys.take k)=d at *
 generalize B^k=p at *
 grind
theorem add_step0(d:k<l.length)(h:val B l+c*B^k=V)(e:s+B*c'=l.getD k 0+c) :
 val B (l.set k s)+c'*B^(k+1)=V:=by
 have h1:=val_set (B:=B) (xs:=l) (i:=k) (v:=s) d;rw[gG];generalize l.getD k 0=x at *
 generalize val B (l.set k s)=a at *
 generalize val B l=b at *
 generalize B^k=p at *
 grind
theorem sub_step(f:k<l.length)(g:k<ys.length)(h:val B l+val B (ys.take k)=V+c*B^k)(e:s+ys.getD k 0+c=l.getD k 0+B*c') :
 val B (l.set k s)+val B (ys.take (k+1))=V+c'*B^(k+1):=by
 have h1:=val_set (B:=B) (xs:=l) (i:=k) (v:=s) f;have h2:=val_take_succ (B:=B) g;rw[h2,gG];generalize l.getD k 0=x at *
 generalize ys.getD k 0=y at *
 generalize val B (l.set k s)=a at *
 generalize val B l=b at *
 generalize val B (ys.take k)=d at *
 generalize B^k=p at *
 grind
theorem sub_step0(d:k<l.length)(h:val B l=V+c*B^k)(e:s+c=l.getD k 0+B*c') :
 val B (l.set k s)=V+c'*B^(k+1):=by
 have h1:=val_set (B:=B) (xs:=l) (i:=k) (v:=s) d;rw[gG];generalize l.getD k 0=x at *
 generalize val B (l.set k s)=a at *
 generalize val B l=b at *
 generalize B^k=p at *
 grind
theorem digit_hi{P:Nat}(c:W=w3*P+lo)(a:lo<P)(b:D=d2*P+lo')(d:q*D<=W):q*d2<=w3:=by
 rcases gQ w3 (q*d2)with h|h
 · exfalso;have h1:(w3+1)*P<=q*d2*P:=oO _ h;have h2:q*(d2*P)<=q*D:=gD _ (by omega);have h3:q*(d2*P)=q*d2*P:=by rw[iQ]
   have h4:(w3+1)*P=w3*P+P:=by rw[iy];omega
   omega
 · exact h
theorem digit_lo{e P:Nat}(_hP:0<P)(d:W=w3*P+lo)(c:D=d2*P+lo')(b:lo' < P)(f:W<(q+1)*D)(he:e*d2<=w3)(a:q+1<=d2):e<=q+1:=by
 rcases gQ (q+1) e with h|h
 · exfalso;have h1:(q+2)*d2<=e*d2:=oO _ h;have h2:(q+2)*d2*P<=w3*P:=oO _ (by omega);have h3:(q+1)*D<=(q+1)*(d2*P+P):=gD _ (by omega);have h4:(q+1)*(d2*P+P)=(q+1)*d2*P+(q+1)*P:=by grind
   have h5:(q+2)*d2*P=(q+1)*d2*P+d2*P:=by grind
   have h6:(q+1)*P<=d2*P:=oO _ a;omega
 · exact h
end
structure Leh(a b A Bb P α β:Int)(f g u1 u2 v1 v2 s:Int):Prop where
 ha:a=A*P+α
 hb:b=Bb*P+β
 a0:0<=α
 a1:α<P
 b0:0<=β
 b1:β<P
 sg:s=1\/s = -1
 f0:0<=f
 g0:0<=g
 gf:g<=f
 ef:f=s*(u1*A-v1*Bb)
 eg:g = -(s*(u2*A-v2*Bb))
 sv:v2*f+v1*g=A
 su:u2*f+u1*g=Bb
 u1n:0<=u1
 u2n:0<=u2
 v1n:0<=v1
 v2p:1<=v2
 uv:u2<=v2
 vv:v1<=v2
theorem Leh.start{b:Int}(i:a=A*P+α)(j:b=Bb*P+β)(d:0<=α)(e:α<P)(b0:0<=β)(f:β<P)(g:0<=Bb)(c:Bb<=A):Leh a b A Bb P α β A Bb 1 0 0 1 1 :=
 ⟨i,j,d,e,b0,f,Or.inl rfl,by omega,g,c,by simp,by simp,by simp,by simp,by omega,by omega,by omega,by omega,by omega,by omega⟩
theorem Leh.sec{b g s:Int}(h:Leh a b A Bb P α β f g u1 u2 v1 v2 s)(m:v2<=g):0 <= -(s*(u2*a-v2*b)):=by
 obtain⟨k,l,d,q,i,r,n,_,_,_,_,j,_,_,_,c,_,p,o,_⟩:=h;have e : -(s*(u2*a-v2*b))=g*P-s*(u2*α-v2*β):=by rw[k,l,j];grind
 have v:u2*α<=v2*(P-1):=nR (jG o d) (jr (by omega) (by omega));have w:v2*β<=v2*(P-1):=jr (by omega) (by omega);have B:0<=u2*α:=lf c d;have C:0<=v2*β:=lf (by omega) i;have D:v2*P<=g*P:=jG m (by omega);have E:v2*(P-1)=v2*P-v2:=by grind
 rw[e];generalize u2 * α=x at *
 generalize v2 * β=y at *
 generalize v2 * P=z at *
 generalize g * P=t at *
 rcases n with rfl|rfl <;> omega
theorem Leh.gap{b g s:Int}(h:Leh a b A Bb P α β f g u1 u2 v1 v2 s)(q:v1+v2<=f-g)(hu:u1<=v1\/(u1=1/\v1=0/\u2=0/\s=1)) : -(s*(u2*a-v2*b))<s*(u1*a-v1*b):=by
 obtain⟨k,l,c,C,j,D,r,_,_,_,o,p,_,_,d,e,i,B,w,Q⟩:=h;have m : -(s*(u2*a-v2*b))=g*P-s*(u2*α-v2*β):=by rw[k,l,p];grind
 have n:s*(u1*a-v1*b)=f*P+s*(u1*α-v1*β):=by rw[k,l,o];grind
 have E:(v1+v2)*P<=(f-g)*P:=jG q (by omega);have F:(v1+v2)*P=v1*P+v2*P:=by grind
 have G:(f-g)*P=f*P-g*P:=by grind
 have H:0<=u2*α:=lf e c;have I:0<=v2*β:=lf (by omega) j;have J:0<=u1*α:=lf d c;have K:0<=v1*β:=lf i j;have L:v2*β<=v2*(P-1):=jr (by omega) (by omega);have M:v1*β<=v1*(P-1):=jr (by omega) (by omega);have N:u2*α<=v2*(P-1):=nR (jG w c) (jr (by omega) (by omega));have R:v2*(P-1)=v2*P-v2:=by grind
 have S:v1*(P-1)=v1*P-v1:=by grind
 rw[m,n];rcases hu with hu|⟨rfl,rfl,rfl,rfl⟩
 · have O:u1*α<=v1*(P-1):=nR (jG hu c) (jr (by omega) (by omega));generalize u2 * α=x at *
   generalize v2 * β=y at *
   generalize u1 * α=T at *
   generalize v1 * β=U at *
   generalize v2 * P=z at *
   generalize v1 * P=V at *
   generalize g * P=t at *
   generalize f * P=v at *
   rcases r with rfl|rfl <;> omega
 · simp at *
   generalize v2 * β=y at *
   generalize v2 * P=z at *
   generalize g * P=t at *
   generalize f * P=v at *
   omega
theorem Leh.step{b g s q r:Int}(h:Leh a b A Bb P α β f g u1 u2 v1 v2 s)(E:f=q*g+r)(r0:0<=r)(I:r<g)(p:1<=q)(hu:u1<=v1\/(u1=1/\v1=0/\u2=0/\s=1)):Leh a b A Bb P α β g r u2 (u1+q*u2) v2 (v1+q*v2) (-s):=by
 obtain⟨n,o,e,i,j,k,t,C,m,D,l,d,w,v,x,c,z,B,y,J⟩:=h;have F:0<=q*u2:=lf (by omega) c;have G:v2<=q*v2:=by
  have:=jG p (show 0<=v2 by omega);omega
 have H:q*u2<=q*v2:=jr y (by omega);refine⟨n,o,e,i,j,k,by rcases t with rfl | rfl <;> simp,m,r0,by omega,by rw[d];grind,?_,?_,?_,c,by omega,by omega,by omega,?_,by omega⟩
 · have:r=f-q*g:=by omega
   rw[this,l,d];grind
 · have:r=f-q*g:=by omega
   rw[this,<-w];grind
 · have:r=f-q*g:=by omega
   rw[this,<-v];grind
 · rcases hu with hu|⟨rfl,rfl,rfl,_⟩
   · omega
   · simp;omega
theorem guess_le(h1:b<=2*y1)(h0:y0<b)(a:U<y1*b+y0):U/y1<=b+1:=by
 rcases gQ (b+1) (U/y1)with h|h
 · exfalso;have h2:(b+2)*y1<=U/y1*y1:=oO _ h;have h3:U/y1*y1<=U:=nE _ _;have h4:(b+2)*y1=y1*b+2*y1:=by grind
   omega
 · exact h
theorem guess_hi(a:g*y1+r=U)(d:q*(y1*b+y0)<=U*b+u)(hu:u<b)(c:r<y1):q<=g:=by
 rcases gQ g q with h|h
 · exfalso;have h1:(g+1)*(y1*b+y0)<=q*(y1*b+y0):=oO _ h;have h2:(g+1)*(y1*b+y0)=g*y1*b+y1*b+(g+1)*y0:=by grind
   have h3:U*b=g*y1*b+r*b:=by rw[<-a];grind
   have h4:(r+1)*b<=y1*b:=oO _ c;have h5:(r+1)*b=r*b+b:=by grind
   omega
 · exact h
theorem guess_down(c:g*y1+r=U)(e:q*(y1*b+y0)<=U*b+u)(d:q<b)(a:b<=g\/b*r+u<g*y0):q<g:=by
 rcases a with a|a
 · omega
 · rcases gQ q g with h|h
   · exact h
   · exfalso;have h1:g*(y1*b+y0)<=q*(y1*b+y0):=oO _ h;have h2:g*(y1*b+y0)=g*y1*b+g*y0:=by grind
     have h3:U*b=g*y1*b+r*b:=by rw[<-c];grind
     have h4:b*r=r*b:=oU _ _;omega
theorem guess_done(a:g*y1+r=U)(c:U*b+u<(q+1)*(y1*b+y0))(d:g*y0<=b*r+u):g<=q:=by
 rcases gQ q g with h|h
 · exfalso;have h1:(q+1)*(y1*b+y0)<=g*(y1*b+y0):=oO _ h;have h2:g*(y1*b+y0)=g*y1*b+g*y0:=by grind
   have h3:U*b=g*y1*b+r*b:=by rw[<-a];grind
   have h4:b*r=r*b:=oU _ _;omega
 · exact h
theorem guess_over(c:b<=r)(a:g<=b)(h0:y0<b):g*y0<=b*r+u:=by
 have h1:g*y0<=b*y0:=oO _ a;have h2:b*y0<=b*r:=gD _ (by omega);omega
theorem digit_lt{y:Nat}(a:U<y)(hu:u<b)(c:q*y<=U*b+u):q<b:=by
 rcases gQ q b with h|h
 · exact h
 · exfalso;have h1:b*y<=q*y:=oO _ h;have h2:(U+1)*b<=y*b:=oO _ a;have h3:(U+1)*b=U*b+b:=by grind
   have h4:b*y=y*b:=oU _ _;omega
end Go.Proofs.YtlbmnokpiilfpaaGreatDoor.W
namespace Go.Proofs.YtlbmnokpiilfpaaGreatDoor
open Go Go.RowKit
variable {a:Act} {ops:Array Oper} {l:List Nat} {cs news xs ys:List Value} {base bytes g i j n:Nat} {o:Oper} {s x:Operand} {cons row:Option Nat} {e t:TypeId} {c v z:Value} {b w w' w0 w1:World}
def Bt(k:IntKind)(x:Nat):Value := .int k (x:Int)
def SlN(k:IntKind)(w:World)(a:Option Addr)(n c:Nat)(xs:List Nat):Prop:=Sl w a n c (xs.map (Bt k))
def BG(k:IntKind)(w:World)(g:Nat)(t:TypeId)(xs:List Nat):Prop:=Arr w g t (xs.map (Bt k))
section
variable {k:IntKind} {w w':World} {a:Option Addr} {n c:Nat} {xs:List Nat}
theorem SlN.ext(h:SlN k w a n c xs)(e:Ext w w'):SlN k w' a n c xs:=Sl.ext h e
theorem SlN.len(h:SlN k w a n c xs):xs.length=n:=by have:=Sl.len h;simpa using this
theorem SlN.le(h:SlN k w a n c xs):n<=9223372036854775807:=by
 have h1:=Sl.cap h;have h2:=Sl.max h;unfold maxLen at h2;omega
theorem SlN.cap(h:SlN k w a n c xs):n<=c:=Sl.cap h
theorem SlN.nil(k:IntKind)(w:World):SlN k w none 0 0 []:=Sl.nil w
theorem SlN.at(h:SlN k w a n c xs){j:Nat}(m:j<n) :
 ∃ b d,a=some ⟨b,d,none⟩/\∀ i,i<n->w.cell? ⟨b,d+i,none⟩=some (.int k ((xs.getD i 0:Nat):Int)):=by
 obtain⟨b,d,f,g⟩:=Sl.rd h (by omega);refine⟨b,d,f,fun i l => ?_⟩;rw[g i l];have o:=h.len;have e:i<xs.length:=by omega
 simp[e,Bt]
theorem SlN.upto(h:SlN k w a n c xs){m:Nat}(b:m<=n):SlN k w a m c (xs.take m):=by
 have:=Sl.upto h b
 rwa[<-oB]at this
theorem Sl.keptR(h:Sl w a n c cs)(j:w.grownBy w' row)(d:blk a=none\/blk a≠row):Sl w' a n c cs:=by
 refine⟨h.len,h.cap,h.max,fun h0 => ?_⟩;obtain⟨b,e,rfl,g⟩:=h.rd h0;refine⟨b,e,rfl,fun i k => ?_⟩;have h1:=g i k;have f:b<w.heap.size:=iP w ⟨b,e+i,none⟩ h1;rcases d with d|d
 · simp[blk]at d
 · rw[jT (w:=w) (j.block b f d),h1]
theorem SlN.kept(h:SlN k w a n c xs)(d:w.grownBy w' row)(b:blk a=none\/blk a≠row):SlN k w' a n c xs:=Sl.keptR h d b
theorem SlN.fresh(h:SlN k w0 a n c xs){g:Nat}(i:w0.heap.size<=g)(h0:0<n):blk a≠some g:=by
 obtain⟨b,d,rfl,e⟩:=Sl.rd h h0;have f:b<w0.heap.size:=iP w0 ⟨b,d+0,none⟩ (e 0 h0);simp[blk];omega
end
section
variable {k:IntKind} {w w':World} {g:Nat} {t:TypeId} {xs:List Nat}
theorem BG.lt(h:BG k w g t xs):g<w.heap.size:=Arr.lt h
theorem BG.cell(h:BG k w g t xs){i:Nat}(hi:i<xs.length):w.cell? ⟨g,i,none⟩=some (.int k ((xs.getD i 0:Nat):Int)):=by
 rw[Arr.cell h (by simpa using hi)];simp[hi,Bt]
theorem BG.frozen(h:BG k w g t xs)(i:Nat):w.frozen? ⟨g,i,none⟩=false:=Arr.frozen h i
theorem BG.set(h:BG k w g t xs)(i:Nat)(v:Nat):BG k (w.setCell ⟨g,i,none⟩ (.int k (v:Int))) g t (xs.set i v):=by
 have:=Arr.set h i (Bt k v)
 rwa[<-nO]at this
theorem BG.drewN(h:BG k w g t xs)(n:Nat):BG k (w.drewN n) g t xs:=Arr.drewN h n
theorem BG.ext(h:BG k w g t xs)(e:Ext w w'):BG k w' g t xs:=Arr.ext h e
theorem BG.alloc(h:BG k w g t xs)(o:Obj):BG k (w.alloc o) g t xs:=Arr.alloc h o
theorem BG.kept{row:Option Nat}(h:BG k w g t xs)(a:w.grownBy w' row)(b:some g≠row):BG k w' g t xs:=Arr.kept h a b
theorem BG.part(h:BG k w g t xs){o n c:Nat}(e:o+n<=xs.length)(a:n<=c)(d:c<=maxLen):SlN k w (some ⟨g,o,none⟩) n c ((xs.drop o).take n):=by
 refine⟨by simp;omega,a,d,fun _=>⟨g,o,rfl,fun i b => ?_⟩⟩;rw[h.cell (i:=o+i) (by omega)];have h1:i<n:=b;have h2:o+i<xs.length:=by omega
 simp[h1,h2,Bt]
theorem BG.sl(h:BG k w g t xs){n c:Nat}(d:n<=xs.length)(a:n<=c)(b:c<=maxLen):SlN k w (some ⟨g,0,none⟩) n c (xs.take n):=by
 have:=h.part (o:=0) (n:=n) (by omega) a b;simpa using this
end
theorem Own.arr(h:Own w base e (some ⟨g,0,none⟩) n n cs):Arr w g e cs:=by
 have k:=h.len;rcases h.2 with⟨a,_⟩|⟨j,c,b,a,_,d,_,_,f,i⟩
 · simp at a
 · simp only[pk,oQ,ic,iY,lh]at a;obtain⟨rfl,rfl⟩:=a;unfold Arr;rw[d];have:b.toList=cs:=by
    rw[<-i];exact(oL (by simp[f])).symm
   rw[<-this]
structure Num(B:Nat)(xs:List Nat)(v:Nat):Prop where
 bnd:W.bnd B xs
 nrm:W.nrm xs
 val:W.val B xs=v
theorem Num.nil(B:Nat):Num B [] 0:=⟨fun x a=>(by simp at a),W.nrm_nil,rfl⟩
theorem Num.trim{B:Nat}{xs:List Nat}{v:Nat}(h:W.bnd B xs)(a:W.val B xs=v):Num B (W.trim xs) v:=⟨W.bnd_trim h,W.trim_nrm xs,by rw[W.trim_val];exact a⟩
def Ib(k:IntKind)(B:Nat)(w:World)(v:Nat)(e:Ending)(w':World):Prop:=∃ a n c xs,e = .returned (.slice a n c)/\Ext w w'/\SlN k w' a n c xs/\Num B xs v
def Av(k:IntKind)(w:World)(base:Nat)(e:TypeId)(g n c:Nat)(xs:List Nat):Prop:=Own w base e (some ⟨g,0,none⟩) n c (xs.map (Bt k))
section
variable {k:IntKind} {w w':World} {base:Nat} {e:TypeId} {g n c:Nat} {xs:List Nat}
theorem Av.len(h:Av k w base e g n c xs):xs.length=n:=by have:=Own.len h;simpa using this
theorem Av.le(h:Av k w base e g n c xs):n<=9223372036854775807:=by
 have h1:=Own.cap h;have h2:=(Own.sl h).max;unfold maxLen at h2;omega
theorem Av.lo(h:Av k w base e g n c xs):base<=g:=(Own.lt h (k:=g) rfl).1
theorem Av.lt(h:Av k w base e g n c xs):g<w.heap.size:=(Own.lt h (k:=g) rfl).2
theorem Av.cell(h:Av k w base e g n c xs){i:Nat}(hi:i<n):w.cell? ⟨g,i,none⟩=some (.int k ((xs.getD i 0:Nat):Int)):=by
 have b:=h.len;have a:i<xs.length:=by omega
 rw[Own.cellAt h hi];simp[a,Bt]
theorem Av.frozen(h:Av k w base e g n c xs)(i:Nat):w.frozen? ⟨g,i,none⟩=false:=Own.frozenAt h i
theorem Av.set(h:Av k w base e g n c xs)(i v:Nat):Av k (w.setCell ⟨g,i,none⟩ (.int k (v:Int))) base e g n c (xs.set i v):=by
 have:=Own.stored h i (Bt k v)
 rwa[<-nO]at this
theorem Av.ext(h:Av k w base e g n c xs)(x:Ext w w'):Av k w' base e g n c xs:=Own.ext h x
theorem Av.drewN(h:Av k w base e g n c xs)(m:Nat):Av k (w.drewN m) base e g n c xs:=Own.drewN h m
theorem Av.mono{a:Nat}(h:Av k w base e g n c xs)(b:a<=base):Av k w a e g n c xs:=Own.mono h b
theorem Av.kept{row:Option Nat}(h:Av k w base e g n c xs)(b:w.grownBy w' row)(a:some g≠row):Av k w' base e g n c xs:=Own.kept h b (Or.inr a)
theorem Av.sl(h:Av k w base e g n c xs):SlN k w (some ⟨g,0,none⟩) n c xs:=Own.sl h
theorem Av.of_zeros(h:Own w base e (some ⟨g,0,none⟩) n c (List.replicate n (.int k 0))):Av k w base e g n c (List.replicate n 0):=by
 unfold Av;rw[lP];exact h
theorem Av.arr(h:Av k w base e g n n xs):BG k w g e xs:=Own.arr h
theorem BG.own(h:BG k w g e xs)(a:base<=g)(b:xs.length<=maxLen):Av k w base e g xs.length xs.length xs:=by
 refine⟨by simp,Or.inr ⟨g,xs.length,(xs.map (Bt k)).toArray,rfl,a,h,lrf _,b,by simp,?_⟩⟩;rw[px];exact oL (by simp)
end
theorem CK(w:World)(row:Option Nat):w.grownBy w row:=mr w row
theorem IK{a c:World}(h:a.grownBy b row)(k:b.grownBy c row):a.grownBy c row :=
 ⟨k.os.trans h.os,k.tape.trans h.tape,k.output.trans h.output,oS h.size k.size,fun i e d=>(k.block i (ph e h.size) d).trans (h.block i e d)⟩
theorem GK{a c:World}(h:a.grownBy b row)(k:Ext b c):a.grownBy c row :=
 ⟨k.os.trans h.os,k.tape.trans h.tape,k.output.trans h.output,oS h.size k.size,fun i e d=>(k.block (ph e h.size)).trans (h.block i e d)⟩
theorem Dg{a:World}(h:a.grownBy b (some g))(j:Nat)(u:Value):a.grownBy (b.setCell ⟨g,j,none⟩ u) (some g):=IK h (Am b g j u)
theorem Ext.grownR(h:Ext w w1)(a:w1.grownBy w' (some g))(c:w.heap.size<=g):Ext w w':=h.grown a (fun k b=>by simp only[oQ]at b;omega)
inductive Ty where
 | eq (c:Value)
 | pr (p:Value->World->Prop)
def Ty.ok:Ty->Value->World->Prop
 | .eq c,v,_=>v=c
 | .pr p,v,w=>p v w
structure Hd where
 mu:Bool
 ty:Ty
 cons:Option Nat
def he(c:Value):Hd:=⟨false,.eq c,none⟩
def hp(p:Value->World->Prop):Hd:=⟨false,.pr p,none⟩
def hu(k:Nat)(p:Value->World->Prop):Hd:=⟨false,.pr p,some k⟩
def hmp(p:Value->World->Prop):Hd:=⟨true,.pr p,none⟩
def hmu(k:Nat)(p:Value->World->Prop):Hd:=⟨true,.pr p,some k⟩
def BI(o:Oper):List Nat:=(o.after.toList.filter (Region.binds .any ·)).map (·.on)
def A5(ops:Array Oper)(j:Nat):Option Tmp:=(ops[j]?).bind (·.dst)
def Mc(ops:Array Oper)(o:Oper)(t:Tmp):Option Nat:=(BI o).find? (fun j=>A5 ops j == some t)
def anc(ops:Array Oper):Nat->List Nat->List Nat
 | 0,l=>l
 | f+1,l=>l ++ anc ops f (l.flatMap fun j=>((ops[j]?).map BI).getD [])
def Nx(o:Oper):List Tmp:=o.op.operands.toList.filterMap fun | .tmp t=>some t | _=>none
def Dz(ops:Array Oper)(o:Oper):List Tmp:=Nx o ++ (match o.guard with | some (j,_)=>(A5 ops j).toList | none=>[])
def Iu(ops:Array Oper)(o:Oper):Bool:=match o.guard with | some (j,_)=>(BI o).contains j && (A5 ops j).isSome | none=>true
def B9(ops:Array Oper)(j:Nat):List Nat:=((ops[j]?).map BI).getD []
def Ny(ops:Array Oper)(cons:List (Option Nat))(n size:Nat)(i:Nat)(o:Oper):Bool :=
 (BI o).all (· < i) && (o.dst.all (· < size)) && Iu ops o &&
 (Dz ops o).all (fun t=>(List.range n).all fun j=>A5 ops j != some t || j == i || (BI o).contains j || (B9 ops j).contains i) &&
 (List.range n).all (fun j=>j == i || A5 ops j != o.dst || o.dst == none) &&
 (BI o).all (fun j=>match (cons[j]?).bind id with | some k=>k == i || (B9 ops k).contains i || !((Dz ops o).any fun t=>A5 ops j == some t) | none=>true)
def hd0:Hd:=⟨false,.eq undef,none⟩
def AK(hs:List Hd)(j:Nat):Hd:=hs.getD j hd0
def J5(ops:Array Oper)(hs:List Hd)(a0:Act)(o:Oper)(ρ:Operand->Value)(w:World):Operand->Prop
 | .tmp t=>match Mc ops o t with
  | some j=>match (AK hs j).ty with
   | .eq c=>ρ (.tmp t)=c
   | .pr p=>∃ v,ρ (.tmp t)=v/\p v w
  | none=>ρ (.tmp t)=a0.eval (.tmp t)
 | _=>True
def B3(ops:Array Oper)(hs:List Hd)(a0:Act)(o:Oper)(ρ:Operand->Value)(w:World):List Operand->Prop
 | []=>True
 | x :: r=>J5 ops hs a0 o ρ w x/\B3 ops hs a0 o ρ w r
structure C9(ρ:Operand->Value):Prop where
 const:∀ v,ρ (.const v)=v
 global:∀ g,ρ (.global g) = .pointer (some ⟨g,0,none⟩)
 func:∀ f,ρ (.func f) = .func (.func f) #[] #[]
theorem IL(a:Act):C9 a.eval:=⟨fun _=>rfl,fun _=>rfl,fun _=>rfl⟩
def FD(P:Program)(R:Value->World->Prop):Result Next->Prop
 | .ok (.value u) w'=>R u w'
 | .ok .skip w'=>R undef w'
 | .ok (.enter f args) w'=>Calls P f args w' (fun e w''=>∃ u,e = .returned u/\R u w'')
 | _=>False
def B4(hs:List Hd)(o:Oper):Option Bool :=
 match o.guard with
 | none=>some true
 | some (j,b)=>match (AK hs j).ty with
  | .eq (.bool c)=>some (c == b)
  | .eq (.tuple _)=>some false
  | _=>none
def Dk(ops:Array Oper)(hs:List Hd)(i:Nat)(o:Oper)(j:Nat):Bool :=
 j != i && (match (AK hs j).ty with | .eq _=>false | .pr _=>true) && !(anc ops 3 (B9 ops j)).contains i &&
 !(match (AK hs j).cons with | some k=>k == i || (anc ops 3 (BI o)).contains k | none=>false)
def Fv(ops:Array Oper)(hs:List Hd)(i:Nat)(o:Oper)(w w':World):List Nat->Prop
 | []=>True
 | j :: r=>(if Dk ops hs i o j then ∀ v,(AK hs j).ty.ok v w->(AK hs j).ty.ok v w' else True)/\Fv ops hs i o w w' r
def DM(C:World->Prop)(ops:Array Oper)(hs:List Hd)(i:Nat)(o:Oper)(h:Hd)(w:World)(u:Value)(w':World):Prop :=
 match h.ty with
 | .eq c=>w'=w/\u=c
 | .pr p=>if h.mu then C w'/\Fv ops hs i o w w' (List.range hs.length)/\p u w' else Ext w w'/\p u w'
def obl(P:Program)(C:World->Prop)(ops:Array Oper)(hs:List Hd)(a0:Act)(i:Nat)(o:Oper)(h:Hd):Prop :=
 match B4 hs o with
 | some true=>∀ ρ w,C9 ρ->C w->B3 ops hs a0 o ρ w o.op.operands.toList->FD P (DM C ops hs i o h w) ((execOp ρ o).run P w)
 | some false=>∀ w,C w->h.ty.ok undef w
 | none=>False
def J6(P:Program)(C:World->Prop)(ops:Array Oper)(hs:List Hd)(a0:Act):Nat->List Oper->List Hd->Prop
 | _,_,[]=>True
 | i,o :: os,h :: r=>obl P C ops hs a0 i o h/\J6 P C ops hs a0 (i+1) os r
 | _,[],_ :: _=>False
theorem Md{t:List Hd}(f:Iu ops o=true)(l:∀ j∈BI o,∀ c,(AK t j).ty = .eq c->∀ d,A5 ops j=some d->a.tmps.getD d undef=c):∀ b,B4 t o=some b->Region.wanted o (yielded ops a.tmps)=b:=by
 intro b e;unfold B4 at e;unfold Region.wanted;cases r:o.guard with
 | none =>
  rw[r]at e;simpa using e
 | some g =>
  obtain⟨j,w⟩:=g;rw[r]at e;simp only at e |-;unfold Iu at f;rw[r]at f;simp only[iH,ja]at f;obtain⟨s,q⟩:=f;obtain⟨d,v⟩:=je.1 q;have n:(ops[j]?).bind (·.dst)=some d:=v;cases i:(AK t j).ty with
  | pr p=>rw[i]at e;cases e
  | eq c =>
   rw[i]at e;have k:=l j s c i d v;rw[jz]at k;unfold yielded;rw[n,ks];cases c with
   | bool c =>
    simp only[oQ]at e;have h1:a.tmps[d]?=some (.bool c):=by
     cases m:a.tmps[d]? with
     | none=>rw[m]at k;cases k
     | some y=>rw[m]at k;simpa using k
    rw[h1,<-e];cases c <;> cases w <;> rfl
   | tuple xs =>
    simp only[oQ]at e;rw[<-e];cases m:a.tmps[d]? with
    | none=>rfl
    | some y =>
     rw[m,pg]at k;rw[k];rfl
   | _=>cases e
def DA(w:World)(K:Act->Prop):List Oper->List Hd->Act->Prop
 | o :: os,h :: r,a=>match h.ty with
  | .eq c=>DA w K os r (a.put o.dst c)
  | .pr p=>match h.cons with
   | none=>∀ v,p v w->DA w K os r (a.put o.dst v)
   | some _=>∀ v,DA w K os r (a.put o.dst v)
 | _,_,a=>K a
def S4(h:Hd):Prop:=match h.ty with | .eq _=>True | .pr p=>∀ v w w',Ext w w'->p v w->p v w'
def Fw:List Hd->Prop
 | []=>True
 | h :: r=>S4 h/\Fw r
/-! ### Soundness -/
section
variable {P:Program} {ops:Array Oper} {hs:List Hd} {a0:Act} {C:World->Prop} {Q:Exit->Act->World->Prop}
def AO(ops:Array Oper)(j:Nat)(a:Act):Value:=match A5 ops j with | some d=>a.tmps.getD d undef | none=>undef
structure Ic(ops:Array Oper)(hs:List Hd)(a0:Act)(C:World->Prop)(listed:Array Bool)(a:Act)(w:World):Prop where
 size:listed.size=ops.size
 tailF:∀ j,hs.length<=j->listed.getD j false=false
 closed:∀ j,listed.getD j false=true->∀ p∈B9 ops j,listed.getD p false=true
 world:C w
 defers:a.defers=a0.defers
 tmps:a.tmps.size=a0.tmps.size
 frame:∀ t,(∀ j,j<hs.length->listed.getD j false=true->A5 ops j≠some t)->a.tmps.getD t undef=a0.tmps.getD t undef
 facts:∀ j,j<hs.length->listed.getD j false=true->(∀ k,(AK hs j).cons=some k->listed.getD k false=false)->∃ v,(AK hs j).ty.ok v w/\∀ d,A5 ops j=some d->a.tmps.getD d undef=v
 values:∀ j c,j<hs.length->listed.getD j false=true->(AK hs j).ty = .eq c->∀ d,A5 ops j=some d->a.tmps.getD d undef=c
theorem Ck{listed:Array Bool}(a:∀ j,listed.getD j false=true->∀ p∈B9 ops j,listed.getD p false=true) :
 ∀ (f:Nat) (l:List Nat),(∀ j∈l,listed.getD j false=true)->∀ j∈anc ops f l,listed.getD j false=true
 | 0,_,h,j,hj=>h j hj
 | f+1,l,h,j,hj=>by
  simp only[anc,il]at hj;rcases hj with hj|hj
  · exact h j hj
  · refine Ck a f _ ?_ j hj;intro k hk;rw[List.mem_flatMap]at hk;obtain⟨m,hm,hk⟩:=hk;exact a m (h m hm) k hk
theorem Kt :j∈BI o<->∃ e∈o.after,Region.binds .any e=true/\e.on=j:=by
 simp[BI,and_assoc]
theorem Eh{listed:Array Bool}(h:i∈Region.ready .any ops listed) :
 listed.getD i true=false/\∃ o,ops[i]?=some o/\∀ p∈BI o,listed.getD p false=true:=by
 obtain⟨h0,o,c,a⟩:=nG.1 h;refine⟨h0,o,c,fun p hp => ?_⟩;obtain⟨e,he,b,rfl⟩:=Kt.1 hp;exact a e he b
theorem Me{listed:Array Bool}(h0:listed.getD i true=false)(b:ops[i]?=some o)(h:∀ p∈BI o,listed.getD p false=true):i∈Region.ready .any ops listed :=
 nG.2 ⟨h0,o,b,fun e he a=>h _ (Kt.2 ⟨e,he,a,rfl⟩)⟩
theorem Ei(a:ops[i]?=some o):B9 ops i=BI o:=by simp[B9,a]
theorem BK(a:ops[i]?=some o):A5 ops i=o.dst:=by simp[A5,a]
theorem GL{i:Nat}{o:Oper}{w a:World}:∀ {l:List Nat},Fv ops hs i o w a l->∀ j∈l,Dk ops hs i o j=true->∀ v,(AK hs j).ty.ok v w->(AK hs j).ty.ok v a
 | _ :: _,h,j,hj,hm,v,hv=>by
  rcases gV.1 hj with rfl|hj
  · have h1:=h.1;rw[pq hm]at h1;exact h1 v hv
  · exact GL h.2 j hj hm v hv
theorem IM{i:Nat}{o:Oper}{w b:World}:∀ {l:List Nat},(∀ j∈l.filter (Dk ops hs i o),∀ v,(AK hs j).ty.ok v w->(AK hs j).ty.ok v b)->Fv ops hs i o w b l
 | [],_=>trivial
 | j :: r,h=>by
  refine⟨?_,IM fun k a=>h k (by
   rw[List.filter_cons];split
   · exact lF _ a
   · exact a)⟩
  by_cases hm:Dk ops hs i o j=true
  · rw[pq hm];exact h j (by rw[List.filter_cons,pq hm];simp)
  · rw[pf hm];trivial
theorem Ku(h:l.filter (Dk ops hs i o)=[j])(b:∀ v,(AK hs j).ty.ok v w->(AK hs j).ty.ok v w'):Fv ops hs i o w w' l :=
 IM (by
  rw[h];intro k a;rw[oZ]at a;subst a
  exact b)
theorem GM:∀ {l:List Hd},Fw l->∀ h∈l,S4 h
 | _ :: _,hh,h,hm=>by
  rcases gV.1 hm with rfl|hm
  · exact hh.1
  · exact GM hh.2 h hm
theorem OQ{h:Hd}(a:S4 h){v:Value}{w d:World}(e:Ext w d)(b:h.ty.ok v w):h.ty.ok v d:=by
 unfold S4 at a;revert a b;cases h.ty with
 | eq c=>exact fun _ b=>b
 | pr p=>exact fun a b=>a v w d e b
theorem Lf{R:Value->World->Prop}{K:Act->World->Prop}(h:FD P R ((execOp a.eval o).run P w))
 (c:∀ u b,R u b->K (a.put o.dst u) b):o.wp P a w K Q:=by
 unfold Oper.wp;generalize (execOp a.eval o).run P w=r at *
 cases r with
 | ok n b =>
  cases n <;> simp only[FD]at h <;> simp only[Oper.upon]
  case value u=>exact c u b h
  case skip=>exact c undef b h
  case enter f args=>exact h.mono fun e d ⟨u,he,g⟩=>by subst he;exact c u d g
 | halt x b=>simp only[FD]at h
theorem Cf{d t:Tmp}:(a.put (some d) v).tmps.getD t undef=if d=t/\d<a.tmps.size then v else a.tmps.getD t undef:=by
 simp only[Act.put,jz];by_cases h:d=t
 · subst h;by_cases h2:d<a.tmps.size
   · simp[h2]
   · simp[h2]
 · rw[lV h];simp[h]
theorem FX{d:Option Tmp}:(a.put d v).tmps.size=a.tmps.size:=by cases d <;> simp[Act.put]
theorem FE{d:Option Tmp}:(a.put d v).defers=a.defers:=by cases d <;> rfl
def unl(listed:Array Bool):Nat->Nat
 | 0=>0
 | n+1=>unl listed n+(if listed.getD n false=true then 0 else 1)
theorem IP{listed:Array Bool}{i:Nat}:∀ {n:Nat},n<=i->unl (listed.setIfInBounds i true) n=unl listed n
 | 0,_=>rfl
 | n+1,h=>by rw[unl,unl,IP (by omega),mJ false (by omega)]
theorem Lg{listed:Array Bool}{i:Nat}(b:i<listed.size)(a:listed.getD i false=false):∀ {n:Nat},i<n->unl (listed.setIfInBounds i true) n+1=unl listed n
 | 0,h=>by omega
 | n+1,h=>by
  rw[unl,unl];by_cases hi:i=n
  · subst hi;rw[IP (lrf _),a];have:(listed.setIfInBounds i true).getD i false=true:=by simp[b]
    rw[this];simp
  · rw[mJ false hi,<-Lg b a (n:=n) (by omega)];omega
theorem FY{listed:Array Bool}:∀ {n:Nat},unl listed n=0->∀ j,j<n->listed.getD j false=true
 | 0,_,j,hj=>by omega
 | n+1,h,j,hj=>by
  rw[unl]at h;by_cases hj':j=n
  · subst hj';by_cases hx:listed.getD j false=true
    · exact hx
    · rw[pf hx]at h;omega
  · exact FY (n:=n) (by omega) j (by omega)
theorem FZ{listed:Array Bool}:∀ {n:Nat},unl listed n≠0->∃ j,j<n/\listed.getD j false=false/\∀ k,k<j->listed.getD k false=true
 | 0,h=>absurd rfl h
 | n+1,h=>by
  by_cases h0:unl listed n=0
  · refine⟨n,by omega,?_,fun k a=>FY h0 k a⟩;rw[unl,h0]at h;by_cases hx:listed.getD n false=true
    · rw[pq hx]at h;omega
    · simpa using hx
  · obtain⟨j,hj,h1,h2⟩:=FZ h0;exact⟨j,by omega,h1,h2⟩
theorem Mf(r:List Hd):∀ (a:List Oper) (b:Nat),J6 P C ops hs a0 b a r->∀ (k:Nat) (o:Oper),a[k]?=some o->k<r.length->obl P C ops hs a0 (b+k) o (r.getD k hd0):=by
 induction r with
 | nil=>intro a b _ k o _ d;simp at d
 | cons h r ih =>
  intro a b e k o c d;cases a with
  | nil=>simp at c
  | cons o' a =>
   cases k with
   | zero =>
    simp only[jB,oQ]at c;subst c;exact e.1
   | succ k =>
    have:=ih a (b+1) e.2 k o (by simpa using c) (by simpa using d);rw[jk,ju 1 k]at this;simpa using this
structure DN(ops:Array Oper)(cons:List (Option Nat))(n size:Nat)(i:Nat)(o:Oper):Prop where
 lt:∀ p∈BI o,p<i
 dst:∀ d,o.dst=some d->d<size
 grd:Iu ops o=true
 look:∀ t∈Dz ops o,∀ j,j<n->A5 ops j=some t->j=i\/j∈BI o\/i∈B9 ops j
 apart:∀ j,j<n->j≠i->A5 ops j=o.dst->o.dst=none
 cons:∀ j∈BI o,∀ k,(cons[j]?).bind id=some k->k=i\/i∈B9 ops k\/∀ t∈Dz ops o,A5 ops j≠some t
theorem Hm{a:List (Option Nat)}{size:Nat}(h:Ny ops a n size i o=true):DN ops a n size i o:=by
 unfold Ny at h;simp only[iH]at h;obtain⟨⟨⟨⟨⟨h1,h2⟩,h3⟩,h4⟩,h5⟩,h6⟩:=h;refine⟨?_,?_,h3,?_,?_,?_⟩
 · intro p hp;simpa using j9.1 h1 p hp
 · intro d b;rw[b]at h2;simpa using h2
 · intro t g j c b;have:=j9.1 (j9.1 h4 t g) j (by simpa using c);simp only[lS,ox,ne_eq,nj,ja]at this;rcases this with((h|h) | h) | h
   · exact absurd b h
   · exact Or.inl h
   · exact Or.inr (Or.inl h)
   · exact Or.inr (Or.inr h)
 · intro j c e b;have:=j9.1 h5 j (by simpa using c);simp only[lS,ox,ne_eq,nj]at this;rcases this with(h|h) | h
   · exact absurd h e
   · exact absurd b h
   · exact h
 · intro j c k f;have:=j9.1 h6 j c;rw[f]at this;simp only[lS,nj,ja,nL,List.any_eq_false]at this;rcases this with(h|h) | h
   · exact Or.inl h
   · exact Or.inr (Or.inl h)
   · exact Or.inr (Or.inr h)
theorem Mh(a:j<hs.length):((hs.map (·.cons))[j]?).bind id=(AK hs j).cons:=by
 simp[AK,a]
theorem IQ{t:Tmp}(h:Mc ops o t=some j):j∈BI o/\A5 ops j=some t:=by
 have h1:=List.mem_of_find?_eq_some h;have h2:=List.find?_some h;exact⟨h1,by simpa using h2⟩
theorem IR{t:Tmp}(h:Mc ops o t=none){j:Nat}(a:j∈BI o):A5 ops j≠some t:=by
 have:=List.find?_eq_none.1 h j a;simpa using this
theorem IU{o:Oper}{a:Operand->Value}{w:World}:∀ {l:List Operand},(∀ x∈l,J5 ops hs a0 o a w x)->B3 ops hs a0 o a w l
 | [],_=>trivial
 | x :: r,h=>⟨h x (by simp),IU fun y b=>h y (by simp[b])⟩
theorem Q9(a7:J6 P C ops hs a0 0 ops.toList hs)(ad:Fw hs)(aa:∀ w n,Ext w n->C w->C n){listed:Array Bool}{a:Act}{w:World}
 (e:Ic ops hs a0 C listed a w) {i:Nat} (hi:i∈Region.ready .any ops listed) (a2:i<hs.length)
 (ac:∀ o,ops[i]?=some o->DN ops (hs.map (·.cons)) hs.length a0.tmps.size i o) {K:Act->World->Prop}
 (hK:∀ a' n,Ic ops hs a0 C (listed.setIfInBounds i true) a' n->K a' n):wpOp P ops Q i K a w:=by
 obtain⟨h0,o,V,L⟩:=Eh hi;have T:=ac o V;have a1:i<listed.size:=by
  rw[e.size];exact(gW.1 V).1
 have Z:listed.getD i false=false:=by
  simpa[a1]using h0
 have s:listed.getD i false≠true:=by rw[Z];simp
 have N:(listed.setIfInBounds i true).getD i false=true:=by simp[a1]
 have A:obl P C ops hs a0 i o (AK hs i):=by
  have:=Mf hs ops.toList 0 a7 i o (by simpa using V) a2;simpa[AK]using this
 -- the operands
 have a8:B3 ops hs a0 o a.eval w o.op.operands.toList:=by
  refine IU fun x hx => ?_;cases x with
  | tmp t =>
   have a6:t∈Dz ops o:=by
    unfold Dz Nx;rw[il];left;rw[List.mem_filterMap];exact⟨_,hx,rfl⟩
   simp only[J5];cases a5:Mc ops o t with
   | none =>
    simp only[Act.eval];refine e.frame t fun j g G m => ?_;rcases T.look t a6 j g m with h|h|h
    · subst h;exact s G
    · exact IR a5 h m
    · exact s (e.closed j G i h)
   | some j =>
    obtain⟨S,O⟩:=IQ a5;have R:j<hs.length:=by have:=T.lt j S;omega
    have a3:=L j S;simp only;cases f:(AK hs j).ty with
    | eq c=>exact e.values j c R a3 f t O
    | pr p =>
     obtain⟨v,y,X⟩:=e.facts j R a3 (by
      intro k B;have:=T.cons j S k (by rw[Mh R];exact B);rcases this with h|h|h
      · subst h;exact Z
      · by_cases D:listed.getD k false=true
        · exact absurd (e.closed k D i h) s
        · simpa using D
      · exact absurd O (h t a6))
     rw[f]at y;exact⟨v,X t O,y⟩
  | _=>trivial
 -- behind the operation
 have r:∀ u n,C n->(AK hs i).ty.ok u n ->
  (∀ j,j<hs.length->j≠i->listed.getD j false=true->(∀ k,(AK hs j).cons=some k->(listed.setIfInBounds i true).getD k false=false)->∀ v,(AK hs j).ty.ok v w->(AK hs j).ty.ok v n) ->
  Ic ops hs a0 C (listed.setIfInBounds i true) (a.put o.dst u) n:=by
  intro u n hC hu U;have F:∀ j,j<hs.length->j≠i->∀ d,A5 ops j=some d->(a.put o.dst u).tmps.getD d undef=a.tmps.getD d undef:=by
   intro j g z d m;cases J:o.dst with
   | none=>rfl
   | some d' =>
    rw[Cf];have:d'≠d:=by
     rintro rfl;have:=T.apart j g z (by rw[m,J]);rw[J]at this;cases this
    rw[pf (fun h=>this h.1)]
  have M:∀ d,A5 ops i=some d->(a.put o.dst u).tmps.getD d undef=u:=by
   intro d m;rw[BK V]at m;rw[m,Cf,pq ⟨rfl,by rw[e.tmps];exact T.dst d m⟩]
  have q:∀ j,j≠i->(listed.setIfInBounds i true).getD j false=true->listed.getD j false=true:=by
   intro j z h
   rwa[mJ false (Ne.symm z)]at h
  refine⟨by rw[oy];exact e.size,?_,?_,hC,by rw[FE];exact e.defers,by rw[FX];exact e.tmps,?_,?_,?_⟩
  · intro j g;rw[mJ false (by omega)];exact e.tailF j g
  · intro j g p hp;by_cases l:j=i
    · subst l;rw[Ei V]at hp;exact kA (L p hp)
    · exact kA (e.closed j (q j l g) p hp)
  · intro t ht;have h1:o.dst≠some t:=by
     have:=ht i a2 N
     rwa[BK V]at this
    have h2:a.tmps.getD t undef=a0.tmps.getD t undef:=e.frame t fun j g G=>ht j g (kA G);cases J:o.dst with
    | none=>exact h2
    | some d' =>
     rw[Cf,pf (fun h=>h1 (by rw[J,h.1]))];exact h2
  · intro j g G H;by_cases l:j=i
    · subst l;exact⟨u,hu,M⟩
    · have a4:=q j l G
      obtain⟨v,y,X⟩:=e.facts j g a4 (by
       intro k B;have:=H k B;by_cases D:listed.getD k false=true
       · rw[kA D]at this;cases this
       · simpa using D)
      exact⟨v,U j g l a4 H v y,fun d m=>by rw[F j g l d m];exact X d m⟩
  · intro j c g G f d m;by_cases l:j=i
    · subst l;rw[f]at hu;rw[M d m];exact hu
    · rw[F j g l d m];exact e.values j c g (q j l G) f d m
 -- the guard
 have Y:=Md T.grd (fun j g c f d m=>e.values j c (by have:=T.lt j g;omega) (L j g) f d m);unfold wpOp;rw[V];simp only;unfold obl at A;cases hw:B4 hs o with
 | none=>rw[hw]at A;exact A.elim
 | some b =>
  rw[hw]at A;rw[Y b hw];cases b with
  | true =>
   rw[pq rfl];left;refine Lf (A a.eval w (IL a) e.world a8) fun u n E=>hK _ _ ?_;unfold DM at E;cases f:(AK hs i).ty with
   | eq c =>
    rw[f]at E;obtain⟨rfl,rfl⟩:=E;exact r u n e.world (by rw[f];rfl) fun _ _ _ _ _ v y=>y
   | pr p =>
    rw[f]at E;simp only at E;by_cases hmu:(AK hs i).mu=true
    · rw[pq hmu]at E;obtain⟨a9,ab,hp⟩:=E;refine r u n a9 (by rw[f];exact hp) fun j g z G H v y => ?_;cases W:(AK hs j).ty with
      | eq c=>rw[W]at y;exact y
      | pr p' =>
       rw[<-W];refine GL ab j (by simpa using g) ?_ v y;have c1:i ∉ anc ops 3 (B9 ops j):=fun h=>s (Ck e.closed 3 _ (e.closed j G) i h);have c2:∀ k,(AK hs j).cons=some k->k≠i/\k ∉ anc ops 3 (BI o):=by
        intro k B;have I:=H k B;refine⟨?_,fun hm => ?_⟩
        · rintro rfl;rw[N]at I;cases I
        · rw[kA (Ck e.closed 3 _ L k hm)]at I;cases I
       unfold Dk;rw[W];cases hc:(AK hs j).cons with
       | none=>simp[z,c1]
       | some k =>
        obtain⟨d1,d2⟩:=c2 k hc;simp[z,c1,d1,d2]
    · rw[pf hmu]at E
      exact r u n (aa w n E.1 e.world) (by rw[f];exact E.2) fun j g _ _ _ v y =>
       OQ (GM ad _ (by rw[AK,gqq,oN g];simp)) E.1 y
  | false =>
   simp only[lT,mI];exact hK _ _ (r undef w e.world (A w e.world) fun _ _ _ _ _ v y=>y)
def CL(vs:Nat->Value):Nat->List Oper->List Hd->Act->Act
 | i,o :: os,_ :: r,a=>CL vs (i+1) os r (a.put o.dst (vs i))
 | _,_,_,a=>a
theorem IV{K:Act->Prop}{vs:Nat->Value}:∀ (r:List Hd) (d:List Oper) (i:Nat) (a:Act),DA w K d r a ->
 (∀ k,k<r.length->∀ c,(r.getD k hd0).ty = .eq c->vs (i+k)=c) ->
 (∀ k,k<r.length->∀ p,(r.getD k hd0).ty = .pr p->(r.getD k hd0).cons=none->p (vs (i+k)) w)->K (CL vs i d r a):=by
 intro r
 induction r with
 | nil =>
  intro d i a h _ _;cases d <;> exact h
 | cons h r ih =>
  intro d i a b h1 h2;cases d with
  | nil=>exact b
  | cons o d =>
   have g:∀ k,k<r.length->∀ c,(r.getD k hd0).ty = .eq c->vs (i+1+k)=c:=by
    intro k l c f;have:=h1 (k+1) (by simpa using l) c (by simpa using f)
    rwa[jk,ju 1 k]
   have j:∀ k,k<r.length->∀ p,(r.getD k hd0).ty = .pr p->(r.getD k hd0).cons=none->p (vs (i+1+k)) w:=by
    intro k l p hp f;have:=h2 (k+1) (by simpa using l) p (by simpa using hp) (by simpa using f)
    rwa[jk,ju 1 k]
   unfold DA at b;unfold CL;have m:=h1 0 (by simp);have n:=h2 0 (by simp);simp only[jZ,gP]at m n;cases e:h.ty with
   | eq c =>
    rw[e]at b;rw[m c e];exact ih d (i+1) _ b g j
   | pr p =>
    rw[e]at b;simp only at b;cases f:h.cons with
    | none =>
     rw[f]at b;exact ih d (i+1) _ (b _ (n p e f)) g j
    | some k =>
     rw[f]at b;exact ih d (i+1) _ (b _) g j
theorem Hn{vs:Nat->Value}:∀ (r:List Hd) (b:List Oper) (i:Nat) (a:Act),(CL vs i b r a).tmps.size=a.tmps.size:=by
 intro r
 induction r with
 | nil=>intro b i a;cases b <;> rfl
 | cons h r ih =>
  intro b i a;cases b with
  | nil=>rfl
  | cons o b=>unfold CL;rw[ih,FX]
theorem Fx{vs:Nat->Value}:∀ (r:List Hd) (b:List Oper) (i:Nat) (a:Act),(CL vs i b r a).defers=a.defers:=by
 intro r
 induction r with
 | nil=>intro b i a;cases b <;> rfl
 | cons h r ih =>
  intro b i a;cases b with
  | nil=>rfl
  | cons o b=>unfold CL;rw[ih,FE]
theorem Ej{vs:Nat->Value}{t:Tmp}:∀ (r:List Hd) (b:List Oper) (i:Nat) (a:Act),(∀ k o,k<r.length->b[k]?=some o->o.dst≠some t)->(CL vs i b r a).tmps.getD t undef=a.tmps.getD t undef:=by
 intro r
 induction r with
 | nil=>intro b i a _;cases b <;> rfl
 | cons h r ih =>
  intro b i a c;cases b with
  | nil=>rfl
  | cons o b =>
   unfold CL;rw[ih b (i+1) _ (fun k j f g=>c (k+1) j (by simpa using f) (by simpa using g))];have:=c 0 o (by simp) rfl;cases e:o.dst with
   | none=>rfl
   | some d=>rw[Cf,pf (fun h=>this (by rw[e,h.1]))]
theorem IW{vs:Nat->Value}{t:Tmp}:∀ (r:List Hd) (d:List Oper) (i:Nat) (a:Act) (k:Nat) (o:Oper),k<r.length->d[k]?=some o->o.dst=some t->t<a.tmps.size ->
 (∀ j n,j < r.length->d[j]?=some n->n.dst=some t->j=k)->(CL vs i d r a).tmps.getD t undef=vs (i+k):=by
 intro r
 induction r with
 | nil=>intro d i a k o m;simp at m
 | cons h r ih =>
  intro d i a k o m l p q c;cases d with
  | nil=>simp at l
  | cons n d =>
   unfold CL;cases k with
   | zero =>
    simp only[jB,oQ]at l;subst l
    rw[Ej r d (i+1) _ (fun k g f b e=>by
     have:=c (k+1) g (by simpa using f) (by simpa using b) e
     omega)]
    rw[p,Cf,pq ⟨rfl,q⟩,gP]
   | succ k =>
    rw[ih d (i+1) _ k o (by simpa using m) (by simpa using l) p (by rw[FX];exact q) (fun j g f b e=>by
     have:=c (j+1) g (by simpa using f) (by simpa using b) e
     omega)]
    rw[jk,ju 1 k]
theorem OR{b:Act}(h1:a.defers=b.defers)(h2:a.tmps.size=b.tmps.size)(h3:∀ t,a.tmps.getD t undef=b.tmps.getD t undef):a=b:=by
 cases a;cases b;simp only at h1 h2 h3;subst h1;congr 1;apply Array.ext h2;intro i c d;have:=h3 i;simpa[c,d]using this
end
/-! ### The operations' notes,kind by kind -/
section
variable {P:Program} {ops:Array Oper} {hs:List Hd} {a0:Act} {C:World->Prop} {i:Nat} {o:Oper}
theorem OS(d:o.guard=none)(h:∀ a w,C9 a->C w->B3 ops hs a0 o a w o.op.operands.toList->(execOp a o).run P w = .ok (.value c) w) :
 obl P C ops hs a0 i o (he c):=by
 unfold obl B4;rw[d];intro a w hp b e;rw[h a w hp b e];exact⟨rfl,rfl⟩
theorem AR{p:Value->World->Prop}(d:o.guard=none)
 (h:∀ a w,C9 a->C w->B3 ops hs a0 o a w o.op.operands.toList->∃ v b,(execOp a o).run P w = .ok (.value v) b/\Ext w b/\p v b) :
 obl P C ops hs a0 i o ⟨false,.pr p,cons⟩:=by
 unfold obl B4;rw[d];intro a w hp c f;obtain⟨v,b,e,h1,h2⟩:=h a w hp c f;rw[e];exact⟨h1,h2⟩
theorem S5{p:Value->World->Prop}(d:o.guard=none)
 (h:∀ b w,C9 b->C w->B3 ops hs a0 o b w o.op.operands.toList->∃ v a,(execOp b o).run P w = .ok (.value v) a/\C a/\Fv ops hs i o w a (List.range hs.length)/\p v a) :
 obl P C ops hs a0 i o ⟨true,.pr p,cons⟩:=by
 unfold obl B4;rw[d];intro b w hp c f;obtain⟨v,a,e,h1,h2,h3⟩:=h b w hp c f;rw[e];exact⟨h1,h2,h3⟩
end
section
variable {P:Program} {w:World}
theorem Ek{a:Option Addr}{c k:Nat}(m:P.underlying t=some (.slice e))(b:BM P e z bytes)(l:k<=c) :
 (Instr.sliceAt t (.slice a n c) none (some (.int .i64 k)) none).run P w = .ok (.slice a k c) w:=by
 obtain⟨i,j,o,d,g⟩:=mF b;have f:(if c=0 then a else a.map (fun x=>x.add 0))=a:=by
  split
  · rfl
  · cases a <;> simp[Addr.add]
 have h0:(0:Int)<=k:=by omega
 have h1:(k:Int)<=c:=by omega
 simp[Instr.sliceAt,Instr.slice,Instr.sliceBounds,Instr.sliceBound,ip m,asIntOf,sizeOf,typeInfo,j,l,f]
theorem Uy:Array.range 0=#[]:=by decide
theorem Mi(f:P.underlying t=some (.slice e))(a:BM P e z bytes) :
 (Instr.buildSlice t 0 #[]).run P w = .ok (.slice (some ⟨w.heap.size,0,none⟩) 0 0) (w.alloc (.cells #[] e)):=by
 obtain⟨i,d,g,b,c⟩:=mF a;simp[Instr.buildSlice,ip f,sizeOf,typeInfo,d,Instr.fill,newRow,Uy]
end
section
variable {P:Program} {ops:Array Oper} {hs:List Hd} {a0:Act} {C:World->Prop} {i:Nat} {o:Oper}
theorem Ra(d:o.guard=none)(f:o.op = .buildSlice t 0 #[])
 (j:P.underlying t=some (.slice e)) (a:BM P e z bytes) (c:∀ w,C w->base<=w.heap.size) :
 obl P C ops hs a0 i o ⟨false,.pr (fun v k=>∃ g,v = .slice (some ⟨g,0,none⟩) 0 0/\Own k base e (some ⟨g,0,none⟩) 0 0 []),cons⟩ :=
 AR d fun m w hp b l=>by
  refine⟨_,_,?_,(Ext.refl w).alloc (.cells #[] e),w.heap.size,rfl,Ay w base e #[] 0 rfl (c w b) (by omega)⟩;simp[execOp,f,Mi j a]
theorem S6{m N:Nat}(M:o.guard=none)
 (G:o.op = .call { callee := .builtin .append,args:=#[s,x],argTypes:=#[t,t] })
 (Q:P.underlying t=some (.slice e)) (d:BM P e z bytes) (B:z.cells.size=1) (h1:∀ u∈news,u.oneCell'=true) (K:n+m=N) (h63:N<=maxLen) (b:N*bytes<=140737488355328)
 (y:xs ++ news=ys) (L:∀ w,C w->base<=w.heap.size)
 (h:∀ g w,C9 g->C w->B3 ops hs a0 o g w [s,x]->∃ a c A l,g s = .slice a n c/\Own w base e a n c xs/\g x = .slice A m l/\Sl w A m l news /\
  ∀ f,w.grownBy f (blk a)->C f/\Fv ops hs i o w f (List.range hs.length)) :
 obl P C ops hs a0 i o ⟨true,.pr (fun v T=>∃ D E,v = .slice D N E/\Own T base e D N E ys),cons⟩ :=
 S5 M fun g w hp F H=>by
  rw[G]at H;obtain⟨a,c,A,l,p,j,r,q,O⟩:=h g w hp F H;subst K;subst y;obtain⟨I,J,f,k,h2,h3,_⟩:=OP (P:=P) (ty:=o.type) Q d B j q h1 h63 b (L w F);obtain⟨R,S⟩:=O f h3;refine⟨_,f,?_,R,S,I,J,rfl,h2⟩;unfold execOp;simp only[G,resolve,invoke,builtin,gI,gS,p9,jo,iz,jg,p,r,k]
end
theorem EN(xs:List Int):∀ u∈xs.map (Value.int .i64),u.oneCell'=true:=ints_oneCell .i64 xs
end Go.Proofs.YtlbmnokpiilfpaaGreatDoor
namespace Go.Proofs.YtlbmnokpiilfpaaGreatDoor
open Go.Shelf
def Nz:Go.Shelf.Ren:=⟨fun | 25=>300 | n=>n,fun | 22=>238 | n=>n,fun | n=>n⟩
theorem Uz:Go.Proofs.Lays7.n25 Tryz.prog Nz:={
 mixed:=by kernel_rfl
 f25:=Tryz.func300.trans (gR some (by kernel_rfl))
 t22:=Tryz.underlying238
 a22:=Tryz.isAgg238
 z22:=Tryz.sizeOf238
 v22:=Tryz.zeroValue238
 i22:=by kernel_rfl }
def NA:Go.Shelf.Ren:=⟨fun | 26=>291 | n=>n,fun | 22=>238 | n=>n,fun | n=>n⟩
theorem UA:Go.Proofs.Lays7.n26 Tryz.prog NA:={
 mixed:=by kernel_rfl
 f26:=Tryz.func291.trans (gR some (by kernel_rfl))
 t22:=Tryz.underlying238
 a22:=Tryz.isAgg238
 z22:=Tryz.sizeOf238
 v22:=Tryz.zeroValue238
 i22:=by kernel_rfl }
def NB:Go.Shelf.Ren:=⟨fun | 264=>301 | n=>n,fun | 53=>238 | 46=>222 | n=>n,fun | n=>n⟩
theorem UB:Go.Proofs.Lays.n264 Tryz.prog NB:={
 mixed:=by kernel_rfl
 f264:=Tryz.func301.trans (gR some (by kernel_rfl))
 t46:=Tryz.underlying222
 a46:=Tryz.isAgg222
 z46:=Tryz.sizeOf222
 v46:=Tryz.zeroValue222
 t53:=Tryz.underlying238
 a53:=Tryz.isAgg238
 z53:=Tryz.sizeOf238
 v53:=Tryz.zeroValue238 }
def PX:Go.Shelf.Ren:=⟨fun | 134=>287 | 129=>253 | n=>n,fun | 53=>238 | 3=>3 | 4=>4 | 46=>222 | 5=>5 | 9=>9 | n=>n,fun | n=>n⟩
theorem Vu:Go.Proofs.Lays.n134 Tryz.prog PX:={
 mixed:=by kernel_rfl
 f129:=Tryz.func253.trans (gR some (by kernel_rfl))
 f134:=Tryz.func287.trans (gR some (by kernel_rfl))
 t3:=Tryz.underlying3
 a3:=Tryz.isAgg3
 z3:=Tryz.sizeOf3
 v3:=Tryz.zeroValue3
 t4:=Tryz.underlying4
 a4:=Tryz.isAgg4
 z4:=Tryz.sizeOf4
 v4:=Tryz.zeroValue4
 t5:=Tryz.underlying5
 a5:=Tryz.isAgg5
 z5:=Tryz.sizeOf5
 v5:=Tryz.zeroValue5
 t9:=Tryz.underlying9
 a9:=Tryz.isAgg9
 z9:=Tryz.sizeOf9
 v9:=Tryz.zeroValue9
 t46:=Tryz.underlying222
 a46:=Tryz.isAgg222
 z46:=Tryz.sizeOf222
 v46:=Tryz.zeroValue222
 t53:=Tryz.underlying238
 a53:=Tryz.isAgg238
 z53:=Tryz.sizeOf238
 v53:=Tryz.zeroValue238 }
def WQ:Go.Shelf.Ren:=⟨fun | 129=>253 | n=>n,fun | 53=>238 | 3=>3 | 4=>4 | 46=>222 | 5=>5 | 9=>9 | n=>n,fun | n=>n⟩
theorem Xb:Go.Proofs.Lays.n129 Tryz.prog WQ:={
 mixed:=by kernel_rfl
 f129:=Tryz.func253.trans (gR some (by kernel_rfl))
 t3:=Tryz.underlying3
 a3:=Tryz.isAgg3
 z3:=Tryz.sizeOf3
 v3:=Tryz.zeroValue3
 t4:=Tryz.underlying4
 a4:=Tryz.isAgg4
 z4:=Tryz.sizeOf4
 v4:=Tryz.zeroValue4
 t5:=Tryz.underlying5
 a5:=Tryz.isAgg5
 z5:=Tryz.sizeOf5
 v5:=Tryz.zeroValue5
 t9:=Tryz.underlying9
 a9:=Tryz.isAgg9
 z9:=Tryz.sizeOf9
 v9:=Tryz.zeroValue9
 t46:=Tryz.underlying222
 a46:=Tryz.isAgg222
 z46:=Tryz.sizeOf222
 v46:=Tryz.zeroValue222
 t53:=Tryz.underlying238
 a53:=Tryz.isAgg238
 z53:=Tryz.sizeOf238
 v53:=Tryz.zeroValue238 }
end Go.Proofs.YtlbmnokpiilfpaaGreatDoor
namespace Go.Proofs.YtlbmnokpiilfpaaGreatDoor
open Tryz Go Go.RowKit
variable {xs ys:List Nat} {B b' c d i m n v x y:Nat} {a b:Option Addr} {w w':World}
theorem AF:BM prog 238 (.int .u64 0) 8:=by unfold BM;kernel_rfl
theorem Ca(x y c:Nat)(a:c<=1)(w:World):(callFunc 300 #[.int .u64 x,.int .u64 y,.int .u64 c]).run prog w = .ok (.value (.tuple #[.int .u64 (((x+y+c)%18446744073709551616:Nat):Int),.int .u64 (((x+y+c)/18446744073709551616:Nat):Int)])) w:=Any7.bits_Add64 Uz x y c a w
theorem CM(x y c:Nat)(a:c<=1)(w:World):(callFunc 291 #[.int .u64 x,.int .u64 y,.int .u64 c]).run prog w = .ok (.value (.tuple #[.int .u64 (((x+18446744073709551616-y-c)%18446744073709551616:Nat):Int),.int .u64 ((if x<y+c then 1 else 0:Nat):Int)])) w:=Any7.bits_Sub64 UA x y c a w
theorem Bk(g:SlN .u64 w a n c xs) :
 Calls prog 231 #[.slice a n c] w fun e A=>∃ m,e = .returned (.slice a m c)/\w=A/\m<=n/\W.trim xs=xs.take m:=by
 have q:=oK g.len;have t:=g.le;have p:=g.cap
 go_enter func231,ntmps231
 go_wp2
 go_loop[3] (fun v=>∃ k:Nat,k<=n/\v = .int .i64 k/\Hid (W.trim xs=W.trimTo xs k)) (fun v=>(intOf v).toNat)
 case atStart=>exact⟨n,lrf _,rfl,oK (by unfold W.trim;rw[q.out])⟩
 case round =>
  obtain⟨k,C,rfl,i⟩:=hrel;have x:=fun B:World=>Ek (P:=prog) (w:=B) (a:=a) (n:=n) underlying81 AF (k:=k) (c:=c) (by omega);cases k with
  | zero =>
   go_wp2;go_ret;exact⟨0,rfl,rfl,by omega,by rw[i.out];rfl⟩
  | succ k =>
   obtain⟨b,o,rfl,l⟩:=g.at (j:=k) (by omega);have r:=l k (by omega);have D:IntKind.i64.wrap ((k:Int)+1-1)=k:=by rw[nH];exact oP _ (by omega)
   have z:IntKind.i64.wrap (k:Int)=k:=oP _ (by omega);by_cases f:xs.getD k 0=0
   · have d:Hid (W.trim xs=W.trimTo xs k):=by
      show _=_;rw[i.out];exact pq f
     rw[f]at r;clear f l;go_wp2;go_round
     case rel=>exact⟨k,by omega,rfl,d⟩
     case measure=>simp[intOf]
   · have d:Hid (W.trim xs=xs.take (k+1)):=by
      show _=_;rw[i.out];exact pf f
     have s:(((xs.getD k 0:Nat):Int) == 0)=false:=by simpa using f
     generalize xs.getD k 0=y at *
     clear f l;go_wp2;go_ret;exact⟨k+1,rfl,rfl,by omega,d.out⟩
theorem Bq(g:SlN .u64 w a n c xs)(d:m<=n)(e:W.trim xs=xs.take m)(b:W.bnd 18446744073709551616 xs)(f:W.val 18446744073709551616 xs=v):SlN .u64 w a m c (W.trim xs)/\Num 18446744073709551616 (W.trim xs) v :=
 ⟨by rw[e];exact g.upto d,Num.trim b f⟩
def Src(w:World)(S:Nat->Prop)(a:Option Addr):Prop:=∀ g,blk a=some g->w.heap.size<=g\/S g
def Ft(b:Nat)(S:Nat->Prop)(a:Option Addr)(n:Nat):Prop:=0<n->∀ g,blk a=some g->b<=g\/S g
theorem Ft.of{b:Nat}{S S':Nat->Prop}(h:Ft b S a n)(d:b'<=b)(c:∀ g,S g->b'<=g\/S' g):Ft b' S' a n:=fun h0 g e=>(h h0 g e).elim (fun h=>Or.inl (oS d h)) (c g)
def Mj(k:IntKind)(B:Nat)(w:World)(S:Nat->Prop)(v:Nat)(e:Ending)(w':World):Prop:=∃ a n c xs,e = .returned (.slice a n c)/\Ext w w'/\SlN k w' a n c xs/\Num B xs v/\Src w S a
theorem Mj.plain{k:IntKind}{S:Nat->Prop}{e:Ending}(h:Mj k B w S v e w'):Ib k B w v e w':=by
 obtain⟨a,n,c,b,h1,h2,h3,h4,_⟩:=h;exact⟨a,n,c,b,h1,h2,h3,h4⟩
theorem Fy(b:x<18446744073709551616):Calls prog 217 #[.int .u64 x] w (Mj .u64 18446744073709551616 w (fun _=>False) x):=by
 by_cases h0:x=0
 · subst h0
   go_enter func217,ntmps217
   go_wp2;go_ret;exact⟨none,0,0,[],rfl,Ext.refl w,SlN.nil _ _,Num.nil _,fun _ h=>by cases h⟩
 · have c:((x:Int) == 0)=false:=by simpa using h0
   go_enter func217,ntmps217
   go_wp2;go_ret;refine⟨_,1,1,[x],rfl,(Ext.refl w).alloc _,(Ay w w.heap.size 238 #[.int .u64 x] 1 rfl (lrf _) (by omega)).sl,⟨?_,W.nrm_single h0,by simp[W.val]⟩,fun g h=>Or.inl (by cases h;exact lrf _)⟩;intro y a;simp only[oZ]at a;subst a;exact b
theorem El(a:x<18446744073709551616):Calls prog 217 #[.int .u64 x] w (Ib .u64 18446744073709551616 w x) :=
 (Fy a).mono fun _ _ h=>h.plain
theorem FF(x:Int)(w:World):Calls prog 310 #[.int .u64 x] w fun e a=>e = .returned (.bool false)/\w=a:=by
 have h:(x != x)=false:=by simp
 go_enter func310,ntmps310
 go_wp2;go_ret;exact⟨rfl,rfl⟩
theorem FG(x:Int)(w:World):Calls prog 254 #[.int .i64 x] w fun e a=>e = .returned (.bool false)/\w=a:=by
 have h:(x != x)=false:=by simp
 go_enter func254,ntmps254
 go_wp2;go_ret;exact⟨rfl,rfl⟩
def AW(x y:Int):Int:=if x<y then -1 else if y<x then 1 else 0
theorem Lh(x y:Int)(w:World):Calls prog 281 #[.int .u64 x,.int .u64 y] w fun e b=>e = .returned (.int .i64 (AW x y))/\w=b:=by
 by_cases h1:x<y
 · have H:Hid (AW x y = -1):=by show _=_;simp[AW,h1]
   go_enter func281,ntmps281
   go_wp2_with(go_at_call 310;refine(FF _ _).mono ?_;rintro e a ⟨rfl,rfl⟩)
   go_ret;exact⟨Dj H.out,rfl⟩
 · by_cases h2:y<x
   · have H:Hid (AW x y=1):=by show _=_;simp[AW,h1,h2]
     go_enter func281,ntmps281
     go_wp2_with(go_at_call 310;refine(FF _ _).mono ?_;rintro e a ⟨rfl,rfl⟩)
     go_ret;exact⟨Dj H.out,rfl⟩
   · have H:Hid (AW x y=0):=by show _=_;simp[AW,h1,h2]
     go_enter func281,ntmps281
     go_wp2_with(go_at_call 310;refine(FF _ _).mono ?_;rintro e a ⟨rfl,rfl⟩)
     go_ret;exact⟨Dj H.out,rfl⟩
theorem Li(x y:Int)(w:World):Calls prog 207 #[.int .i64 x,.int .i64 y] w fun e b=>e = .returned (.int .i64 (AW x y))/\w=b:=by
 by_cases h1:x<y
 · have H:Hid (AW x y = -1):=by show _=_;simp[AW,h1]
   go_enter func207,ntmps207
   go_wp2_with(go_at_call 254;refine(FG _ _).mono ?_;rintro e a ⟨rfl,rfl⟩)
   go_ret;exact⟨Dj H.out,rfl⟩
 · by_cases h2:y<x
   · have H:Hid (AW x y=1):=by show _=_;simp[AW,h1,h2]
     go_enter func207,ntmps207
     go_wp2_with(go_at_call 254;refine(FG _ _).mono ?_;rintro e a ⟨rfl,rfl⟩)
     go_ret;exact⟨Dj H.out,rfl⟩
   · have H:Hid (AW x y=0):=by show _=_;simp[AW,h1,h2]
     go_enter func207,ntmps207
     go_wp2_with(go_at_call 254;refine(FG _ _).mono ?_;rintro e a ⟨rfl,rfl⟩)
     go_ret;exact⟨Dj H.out,rfl⟩
theorem Lj(g:xs.length=ys.length)(hi:i<xs.length)(f:xs.drop (i+1)=ys.drop (i+1))(e:W.bnd B xs)(a:xs.getD i 0<ys.getD i 0):W.val B xs<W.val B ys:=by
 have b:=W.val_split (B:=B) xs (i+1) (by omega);have c:=W.val_split (B:=B) ys (i+1) (by omega);rw[W.val_take_succ hi]at b;rw[W.val_take_succ (by omega)]at c;have d:=W.val_lt (W.bnd_take e i);rw[gO,jn (by omega)]at d;rw[b,c,f];have h1:B^i*(xs.getD i 0+1)<=B^i*ys.getD i 0:=gD _ a;have h2:B^i*(xs.getD i 0+1)=B^i*xs.getD i 0+B^i:=by rw[iE,px]
 omega
theorem F0{x y:Int}(h:x<y):AW x y = -1:=by simp[AW,h]
theorem F3{x y:Int}(h:y<x):AW x y=1:=by
 have:¬ x<y:=by omega
 simp[AW,h,this]
theorem OT(x:Int):AW x x=0:=by simp[AW]
theorem Iv(h:x≠y):(x<y/\AW x y = -1)\/(y<x/\AW x y=1):=by
 rcases Nat.lt_or_gt_of_ne h with h1|h1
 · exact Or.inl ⟨h1,F0 (by omega)⟩
 · exact Or.inr ⟨h1,F3 (by omega)⟩
theorem IX{a b:Nat}(h:a≠b):((a:Int) != (b:Int))=true:=by simp;omega
theorem Mk{a b:Nat}(h:a=b):((a:Int) != (b:Int))=false:=by simp[h]
theorem IY{a b:Nat}(h:a≠b):((a:Int) == (b:Int))=false:=by simp;omega
theorem UC(x y:Int)(w:World):Calls prog 281 #[.int .u64 x,.int .u64 y] w fun e a=>e = .returned (.int .i64 (AW x y))/\Qt w a :=
 (Lh x y w).mono fun _ _ ⟨h1,h2⟩=>⟨h1,h2 ▸ Qt.refl _⟩
theorem Bh(H:SlN .u64 w a n c xs)(I:SlN .u64 w b m d ys)(L:Num 18446744073709551616 xs x)(M:Num 18446744073709551616 ys y) :
 Calls prog 232 #[.slice a n c,.slice b m d] w fun e V=>e = .returned (.int .i64 (AW x y))/\Qt w V:=by
 have g:=oK H.len;have i:=oK I.len;have U:=H.le;have T:=I.le;have o:=oK L;have p:=oK M;clear L M;by_cases t:n=m
 · have F:((n:Int) != (m:Int))=false:=by simp[t]
   have A:=oK t;clear t
   go_enter func232,ntmps232
   go_wp2
   go_loopw[5] (fun v wr=>∃ k:Nat,k<=n/\v = .int .i64 ((k:Int)-1)/\Qt w wr/\Hid (xs.drop k=ys.drop k)) (fun v _=>(intOf v+1).toNat)
   case atStart=>exact⟨n,lrf _,by go_num,Qt.refl _,oK (by rw[gZ (by rw[g.out];exact lrf _),gZ (by rw[i.out,A.out];exact lrf _)])⟩
   case round =>
    obtain⟨k,Z,rfl,s,z⟩:=hrel;cases k with
    | zero =>
     have N:Hid (x=y):=by
      have:=z.out;rw[iw,iw]at this;show x=y;rw[<-o.out.val,<-p.out.val,this]
     go_wp2;go_ret;exact⟨Dj (by rw[N.out,OT]),s⟩
    | succ k =>
     have f:k<m:=by have:=A.out;omega
     obtain⟨X,o1,rfl,q⟩:=(H.ext s.ext).at (j:=k) (by omega);obtain⟨Y,o2,rfl,r⟩:=(I.ext s.ext).at (j:=k) f;have J:=q k (by omega);have K:=r k f;have G:((k+1:Nat):Int)-1=k:=by omega
     rw[G];by_cases he:xs.getD k 0=ys.getD k 0
     · have Q:(((xs.getD k 0:Nat):Int) != ((ys.getD k 0:Nat):Int))=false:=Mk he;have D:Hid (xs.drop k=ys.drop k):=by
        show _=_;rw[ig (l:=xs) (by rw[g.out];omega),ig (l:=ys) (by rw[i.out];exact f),z.out];simp only[gqq,oN (show k<xs.length by rw[g.out];omega),oN (show k<ys.length by rw[i.out];exact f),pg]at he;rw[he]
       generalize xs.getD k 0=u at *
       generalize ys.getD k 0=v at *
       clear he q r;go_wp2
       go_quiet (fail)
       go_wp2;go_roundw
       case rel=>exact⟨k,by omega,by go_num,s.drewN _,D⟩
       case measure=>simp[intOf]
     · have Q:(((xs.getD k 0:Nat):Int) != ((ys.getD k 0:Nat):Int))=true:=IX he;have C:Hid (AW x y=AW ((xs.getD k 0:Nat):Int) ((ys.getD k 0:Nat):Int)):=by
        show _=_;rcases Iv he with⟨h1,h2⟩|⟨h1,h2⟩
        · have:=Lj (B:=18446744073709551616) (by rw[g.out,i.out,A.out]) (by rw[g.out];omega) z.out o.out.bnd h1;rw[o.out.val,p.out.val]at this;rw[h2,F0 (by omega)]
        · have:=Lj (B:=18446744073709551616) (xs:=ys) (ys:=xs) (by rw[g.out,i.out,A.out]) (by rw[i.out];omega) z.out.symm p.out.bnd h1;rw[o.out.val,p.out.val]at this;rw[h2,F3 (by omega)]
       generalize xs.getD k 0=u at *
       generalize ys.getD k 0=v at *
       clear he q r;have S:(k:Int)<n:=by omega
       have R:(k:Int)<m:=by omega
       go_wp2
       go_quiet (fail)
       go_wp2;have O:(wr.drewN nq).cell? _=_:=J;have P:(wr.drewN nq).cell? _=_:=K;have E:=s.drewN nq;generalize wr.drewN nq=wq at *
       clear J K
       go_quiet ((go_at_call 281;exact lH (UC _ _ _)))
       go_wp2;go_ret;exact⟨Dj C.out,E.drewN _⟩
 · have F:((n:Int) != (m:Int))=true:=by simp;omega
   have C:Hid (AW x y=AW n m):=by
    show _=_;rcases Iv t with⟨h1,h2⟩|⟨h1,h2⟩
    · have:=W.len_lt (B:=18446744073709551616) (by omega) o.out.bnd p.out.nrm (by rw[g.out,i.out];exact h1);rw[o.out.val,p.out.val]at this;rw[h2,F0 (by omega)]
    · have:=W.len_lt (B:=18446744073709551616) (by omega) p.out.bnd o.out.nrm (by rw[g.out,i.out];exact h1);rw[o.out.val,p.out.val]at this;rw[h2,F3 (by omega)]
   clear t
   go_enter func232,ntmps232
   go_wp2_with fail
   refine(Li _ _ _).mono ?_;rintro e w1 ⟨rfl,rfl⟩;go_wp2;go_ret;exact⟨Dj C.out,Qt.refl _⟩
theorem UD:(x+y+c)%18446744073709551616+18446744073709551616*((x+y+c)/18446744073709551616)=x+y+c:=jR _ _
theorem Vv(b:x<18446744073709551616)(d:y<18446744073709551616)(a:c<=1):(x+y+c)/18446744073709551616<=1:=by omega
theorem Rc(b:x<18446744073709551616)(d:y<18446744073709551616)(a:c<=1):(x+18446744073709551616-y-c)%18446744073709551616+y+c=x+18446744073709551616*(if x<y+c then 1 else 0):=by
 split <;> omega
theorem PY:(if x<y+c then 1 else 0)<=1:=by split <;> omega
theorem Ml{base g:Nat}(T:Av .u64 w base 238 g n c xs)(U:SlN .u64 w b m d ys)(R:blk b=none\/blk b≠some g)(bx:W.bnd 18446744073709551616 xs)(F:W.bnd 18446744073709551616 ys)(Q:m<=n)(t:W.val 18446744073709551616 xs+W.val 18446744073709551616 ys<18446744073709551616^n) :
 Calls prog 266 #[.slice (some ⟨g,0,none⟩) n c,.slice b m d] w fun e Y=>e = .returned (.tuple #[])/\w.grownBy Y (some g)/\∃ a,Av .u64 Y base 238 g n c a/\W.bnd 18446744073709551616 a/\W.val 18446744073709551616 a=W.val 18446744073709551616 xs+W.val 18446744073709551616 ys:=by
 have HX:=oK T.len;have M:=oK U.len;have a3:=T.le;have a2:=U.le;have Z:=oK F;have HF:=oK t;clear F t
 go_enter func266,ntmps266
 go_wp2
 go_loopw[4,10] (fun O D wr=>∃ (k o:Nat) (a:List Nat),O = .int .u64 o/\D = .int .i64 k/\k<=m/\o<=1/\w.grownBy wr (some g)/\Av .u64 wr base 238 g n c a/\W.bnd 18446744073709551616 a/\Hid (W.val 18446744073709551616 a+o*18446744073709551616^k=W.val 18446744073709551616 xs+W.val 18446744073709551616 (ys.take k))) (fun _ D _=>m-(intOf D).toNat)
 case atStart=>exact⟨0,0,xs,rfl,rfl,oY _,by omega,CK _ _,T,bx,oK (by simp[W.val])⟩
 case round =>
  obtain⟨k,o,a,rfl,rfl,X,q,A,p,r,z⟩:=hrel;by_cases f:k<m
  · obtain⟨b1,o1,rfl,H⟩:=(U.kept A R).at (j:=k) f;have g1:=H k f;have g2:=p.cell (i:=k) (by omega);have g3:=p.frozen k;have C:=W.bnd_at r (i:=k) (by rw[p.len];omega);have V:=W.bnd_at Z.out (i:=k) (by rw[M.out];exact f);have L:=oK (W.add_step (B:=18446744073709551616) (l:=a) (ys:=ys) (k:=k) (by rw[p.len];omega) (by rw[M.out];exact f) z.out (UD (x:=a.getD k 0) (y:=ys.getD k 0) (c:=o)));have G:=Ca (a.getD k 0) (ys.getD k 0) o q;have P:=Vv C V q;have a1:(k:Int)<n:=by omega
    generalize a.getD k 0=u at *
    generalize ys.getD k 0=v at *
    have S:(u+v+o)%18446744073709551616<18446744073709551616:=gE _ (by omega);generalize (u+v+o)%18446744073709551616=s at *
    generalize (u+v+o)/18446744073709551616=N at *
    clear H;go_wp2;go_roundw
    case rel=>exact⟨k+1,N,a.set k s,rfl,by go_num,by omega,P,Dg A _ _,p.set k s,W.bnd_set r S,L⟩
    case measure=>simp[intOf];omega
  · have J:k=m:=by omega
    have E:Hid (W.val 18446744073709551616 a+o*18446744073709551616^m=W.val 18446744073709551616 xs+W.val 18446744073709551616 ys):=by
     have:=z.out;rw[J,oL (by rw[M.out];exact lrf _)]at this;exact this
    clear z J;go_wp2
    go_loopw[4,7] (fun O D wr=>∃ (k o:Nat) (a:List Nat),O = .int .u64 o/\D = .int .i64 k/\m<=k/\k<=n/\o<=1/\w.grownBy wr (some g)/\Av .u64 wr base 238 g n c a/\W.bnd 18446744073709551616 a/\Hid (W.val 18446744073709551616 a+o*18446744073709551616^k=W.val 18446744073709551616 xs+W.val 18446744073709551616 ys)) (fun _ D _=>n-(intOf D).toNat)
    case atStart=>exact⟨m,o,a,rfl,rfl,lrf _,Q,q,A,p,r,E⟩
    case round =>
     clear A p r E f X q;obtain⟨k,o,a,rfl,rfl,a0,X,q,A,p,r,z⟩:=hrel;have I:o=0\/o=1:=by omega
     rcases I with rfl|rfl
     · go_wp2
       go_end0
       exact⟨rfl,A,a,p,r,by have:=z.out;rw[pw,gP]at this;exact this⟩
     · by_cases f:k<n
       · have g2:=p.cell (i:=k) f;have g3:=p.frozen k;have C:=W.bnd_at r (i:=k) (by rw[p.len];exact f);have L:=oK (W.add_step0 (B:=18446744073709551616) (l:=a) (k:=k) (s:=(a.getD k 0+0+1)%18446744073709551616) (c':=(a.getD k 0+0+1)/18446744073709551616) (by rw[p.len];exact f) z.out (by rw[UD]))
         have G:∀ K:World,(callFunc 300 #[.int .u64 ((a.getD k 0:Nat):Int),.int .u64 0,.int .u64 1]).run prog K = .ok (.value (.tuple #[.int .u64 (((a.getD k 0+0+1)%18446744073709551616:Nat):Int),.int .u64 (((a.getD k 0+0+1)/18446744073709551616:Nat):Int)])) K:=fun K=>Ca (a.getD k 0) 0 1 (by omega) K;have P:=Vv C (y:=0) (c:=1) (by omega) (by omega);have S:(a.getD k 0+0+1)%18446744073709551616<18446744073709551616:=gE _ (by omega);generalize (a.getD k 0+0+1)%18446744073709551616=s at *
         generalize (a.getD k 0+0+1)/18446744073709551616=N at *
         generalize a.getD k 0=u at *
         go_wp2;go_roundw
         case rel=>exact⟨k+1,N,a.set k s,rfl,by go_num,by omega,by omega,P,Dg A _ _,p.set k s,W.bnd_set r S,L⟩
         case measure=>simp[intOf];omega
       · exfalso;have J:k=n:=by omega
         have h1:=z.out;have h2:=HF.out;rw[J]at h1;omega
end Go.Proofs.YtlbmnokpiilfpaaGreatDoor
