/- Part Pc1. -/
import Derived.WalkKit
import Derived.Lib.Hide
import Derived.Deep.Draws
import Derived.Maps.AppendAt
import Derived.Deep.AppendLies
import Derived.RegionTactic
import Derived.OwnWalk
import Derived.Laws.Rows
import Derived.Laws.Tables
import Derived.Laws.CopyRow
import Derived.Laws.IdiomCopy
import Derived.Orders
import Derived.StillTail
import Derived.Shelf.Spec.BitsCarry
import Derived.Shelf.Bits.Mul64
import Derived.Shelf.Small.Bits
import Derived.Test.YtidknnkgdniopaaGreatDoorProg
import Derived.Deep.QuietTactic
import Derived.BigQuiet
set_option linter.all false
set_option maxRecDepth 100000
set_option maxHeartbeats 100000000
namespace Go.Proofs.YtidknnkgdniopaaGreatDoor
open Go Go.RowKit
variable {f:Act} {ops:Array Oper} {b ok:Bool} {Q:Exit->Act->World->Prop} {m:List (List Int×Value)} {k:List Int} {seen:List Nat} {rest:List Oper} {cs cur news vs xs:List Value} {base base' bytes cx g it n r:Nat} {o:Oper} {d l s u x y:Operand} {A a:Option Addr} {row:Option Nat} {P:Program} {dT e et sT t ty:TypeId} {v z:Value} {w w':World}
universe u
def gD:=@List.getElem?_eq_getElem
def gE:=@Lib.hid
def gF:=@List.take_of_length_le
def gG:=@Nat.mul_le_mul_right
def gH:=@Nat.le_trans
def gJ:=@IntWalk.i64_in
def gK:=@List.mem_singleton
def gL:=@Option.some.injEq
def gM:=@List.take_succ_eq_append_getElem
def gN:=@List.eq_nil_of_length_eq_zero
def gP:=@Nat.zero_le
def gQ:=@if_neg
def gR:=@Result.andThen_ok
def gT:=@Nat.eq_zero_or_pos
def gV:=@Nat.mul_comm
def gW:=@Nat.pow_le_pow_right
def gX:=@if_pos
def gY:=@List.mem_map
def gZ:=@Value.slice.injEq
def iA:=@List.mem_append
def iD:=@Nat.mod_lt
def iE:=@Nat.lt_or_ge
def iH:=@Nat.add_zero
def iJ:=@List.length_cons
def iM:=@Sem.run_pure
def iO:=@List.map_append
def iP:=@List.mem_cons
def iT:=@congrArg
def iU:=@run_underlying
def iV:=@Nat.add_mul
def iW:=@Array.getElem?_eq_some_iff
def ib:=@Option.getD_some
def ic:=@List.getElem?_eq_none
def ie:=@Classical.byContradiction
def ig:=@Nat.lt_of_lt_of_le
def ij:=@Nat.mul_le_mul_left
def il:=@List.getElem_mem
def im:=@Nat.pow_succ
def ip:=@Sem.run_bind
def iq:=@List.length_take
def iy:=@Nat.zero_add
def j3:=@Addr.mk.injEq
def j7:=@List.map_cons
def j8:=@List.mem_flatMap
def jC:=@Nat.mul_assoc
def jJ:=@Nat.add_comm
def jK:=@Nat.add_assoc
def jL:=@List.map_nil
def jM:=@List.contains_iff_mem
def jP:=@Array.getElem?_eq_none
def jR:=@List.all_eq_true
def jS:=@Nat.min_eq_left
def jW:=@List.cons_append
def jZ:=@World.cell?_of_block
def ja:=@World.block_lt_of_cell?
def jb:=@Int.mul_le_mul_of_nonneg_right
def jc:=@Int.mul_le_mul_of_nonneg_left
def jd:=@List.mem_map_of_mem
def jf:=@List.drop_zero
def jh:=@wpList_plain
def jk:=@List.mem_or_eq_of_mem_set
def jl:=@Nat.pow_pos
def jp:=@Option.isSome_iff_exists
def jq:=@List.pairwise_cons
def ju:=@Bool.and_eq_true
def jw:=@and_true
def k8:=@List.mem_of_mem_take
def k9:=@Nat.mul_one
def kB:=@List.map_toArray
def kC:=@List.getD_cons_zero
def kF:=@Nat.gcd_dvd_right
def kG:=@List.getElem?_set
def kH:=@List.ext_getElem?
def kJ:=@Nat.add_sub_cancel
def kK:=@List.nodup_cons
def kL:=@List.getLast_eq_getElem
def kN:=@Option.bind_some
def kU:=@List.getD_cons_succ
def kV:=@List.drop_succ_cons
def kW:=@Prod.mk.injEq
def kX:=@Array.getElem?_eq_getElem
def kY:=@Nat.sub_zero
def ki:=@List.take_append_drop
def kj:=@List.getElem?_cons_zero
def l4:=@Array.getElem?_modify
def l9:=@Bool.false_eq_true
def lG:=@List.mem_filter
def lJ:=@Array.getD_eq_getD_getElem?
def lO:=@List.set_cons_succ
def lV:=@Array.getElem?_setIfInBounds_ne
def lW:=@Int.le_trans
def lX:=@true_and
def ld:=@Nat.gcd_dvd_left
def lf:=@if_true
def lg:=@getD_set_true
def li:=@Nat.dvd_trans
def lr:=@List.getElem?_cons_succ
def lu:=@Nat.gcd_comm
def lz:=@Int.mul_nonneg
def mA:=@List.setIfInBounds_toArray
def mD:=@List.mem_of_mem_drop
def mE:=@List.mem_cons_of_mem
def mF:=@heap_alloc_new
def mK:=@List.replicate_succ
def mN:=@List.map_set
def mT:=@Bool.or_eq_true
def mU:=@List.nodup_append
def mX:=@if_false
def mc:=@beq_iff_eq
def mh:=@List.set_cons_zero
def mi:=@List.map_replicate
def mo:=@List.length_nil
def mr:=@Array.getElem?_setIfInBounds_self_of_lt
def nI:=@World.grownBy.refl
def nR:=@info_parts
def nT:=@Nat.mul_div_assoc
def nU:=@getD_set_ne
def nW:=@Nat.lt_irrefl
def oA:=@List.mem_iff_getElem?
def oF:=@Nat.div_mul_le_self
def oI:=@mem_ready
def oK:=@Int.add_sub_cancel
def oL:=@World.ownsRow_lit
def oO:=@Bool.not_eq_true'
def oX:=@List.dropLast_concat_getLast
def od:=@List.take_length
def ou:=@Option.map_none
def pg:=@bne_iff_ne
def ph:=@Array.size_setIfInBounds
def pm:=@List.map_take
def py:=@Array.ext'
theorem lw{b:Type u}{a:b}{l:List b}:(a::l).length=l.length+1:=iJ
theorem lx{a:Type u}:([]:List a).length=0:=mo
theorem lj{b:Type u}{a:b}{l:List b}{i:Nat}:(a::l).drop (i+1)=l.drop i:=kV
theorem ly{a:Type u}{l:List a}:l.drop 0=l:=jf
theorem lA{b:Type u}{a:b}{l:List b}{i:Nat}:l.toArray.setIfInBounds i a=(l.set i a).toArray:=mA _ _ _
theorem lB{b:Type u}{x a:b}{l:List b}{i:Nat}:(x::l).set (i+1) a=x::l.set i a:=lO
theorem lC{b:Type u}{x a:b}{l:List b}:(x::l).set 0 a=a::l:=mh
theorem gqq{a:Type u}{l:List a}{i:Nat}{d:a}:l.getD i d=l[i]?.getD d:=List.getD_eq_getElem?_getD
theorem lrf(n:Nat):n<=n:=Nat.le_refl n
def Ext(w w':World):Prop:=Below w.heap.size w w'
theorem Ext.refl(w:World):Ext w w:=Below.refl _ _
theorem Ext.trans{a b c:World}(h:Ext a b)(k:Ext b c):Ext a c:=Below.trans h (Below.mono k h.size)
theorem Ext.size{w a:World}(h:Ext w a):w.heap.size<=a.heap.size:=Below.size h
theorem Ext.drewN{w a:World}(h:Ext w a)(n:Nat):Ext w (a.drewN n):=⟨h.os,h.tape,h.output,h.size,h.block⟩
theorem Ext.drew{w a:World}(h:Ext w a):Ext w a.drew:=⟨h.os,h.tape,h.output,h.size,h.block⟩
theorem Ext.alloc{w a:World}(h:Ext w a)(o:Obj):Ext w (a.alloc o):=Below.alloc h h.size o
theorem Ext.setCell{w a:World}(h:Ext w a){p:Addr}(hp:w.heap.size<=p.block)(u:Value):Ext w (a.setCell p u):=Below.setCell h hp u
theorem Ext.grown{w w1 a:World}{row:Option Nat}(h:Ext w w1)(b:w1.grownBy a row)(c:∀k,row=some k->w.heap.size<=k):Ext w a := Below.grown h b h.size c
theorem Ext.block{w a:World}(h:Ext w a){k:Nat}(b:k<w.heap.size):a.heap[k]?=w.heap[k]?:=Below.block h k b
theorem Ext.cell{w a:World}(h:Ext w a){p:Addr}{v:Value}(hp:w.cell? p=some v):a.cell? p=some v:=by rw[jZ (w:=w) (h.block (ja w p hp)),hp]
def Qt(w w':World):Prop:=∃n,w'=w.drewN n
theorem Qt.refl(w:World):Qt w w:=⟨0,rfl⟩
theorem Qt.drewN{w a:World}(h:Qt w a)(n:Nat):Qt w (a.drewN n):=by obtain⟨m,rfl⟩:=h;exact⟨m+n,by rw[World.drewN_drewN]⟩
theorem Qt.trans{a b c:World}(h:Qt a b)(k:Qt b c):Qt a c:=by obtain⟨m,rfl⟩:=k;exact h.drewN m
theorem Qt.ext(h:Qt w w'):Ext w w':=by obtain⟨m,rfl⟩:=h;exact(Ext.refl w).drewN m
theorem ZB{a:Bool}(h:b=a):Ending.returned (.bool a)=.returned (.bool b):=by rw[h]
theorem Dz{k:IntKind}{a b:Int}(h:b=a):Ending.returned (.int k a)=.returned (.int k b):=by rw[h]
structure Sl(w:World)(a:Option Addr)(n c:Nat)(cs:List Value):Prop where
 len:cs.length=n
 cap:n<=c
 max:c<=maxLen
 rd:0<n->∃b off,a=some ⟨b,off,none⟩/\∀i,i<n->w.cell? ⟨b,off+i,none⟩=some (cs.getD i undef)
theorem Sl.ext{c:Nat}(h:Sl w a n c cs)(e:Ext w w'):Sl w' a n c cs := ⟨h.len,h.cap,h.max,fun h0=>let ⟨b,off,ha,hc⟩:=h.rd h0;⟨b,off,ha,fun i d=>e.cell (hc i d)⟩⟩
theorem Sl.nil(w:World):Sl w none 0 0 []:=⟨rfl,lrf _,gP _,fun h=>absurd h (nW _)⟩
def SlI(w:World)(a:Option Addr)(n c:Nat)(xs:List Int):Prop:=Sl w a n c (xs.map (Value.int .i64))
theorem SlI.ext{w b:World}{a:Option Addr}{n c:Nat}{xs:List Int}(h:SlI w a n c xs)(e:Ext w b):SlI b a n c xs:=Sl.ext h e
theorem SlI.len{w:World}{a:Option Addr}{n c:Nat}{xs:List Int}(h:SlI w a n c xs):xs.length=n:=by have:=Sl.len h;simpa using this
theorem SlI.le{c:Nat}{xs:List Int}(h:SlI w a n c xs):n<=9223372036854775807:=by have h1:=Sl.cap h;have h2:=Sl.max h;unfold maxLen at h2;omega
theorem SlI.at{c:Nat}{xs:List Int}(h:SlI w a n c xs){k:Nat}(l:k<n):∃b d,a=some ⟨b,d,none⟩/\∀i,i<n->w.cell? ⟨b,d+i,none⟩=some (.int .i64 (xs.getD i 0)):=by (obtain⟨b,d,f,g⟩:=Sl.rd h (by omega);refine⟨b,d,f,fun i j=>?_⟩;rw[g i j];have m:=h.len;have e:i<xs.length:=by omega);simp[e]
theorem Sl.of_owns{v c:Nat}(h:w.ownsRow base e 1 (.slice a n c) v cs):Sl w a n c cs:=by obtain⟨j,h⟩:=h;rcases h with⟨d,s⟩|⟨g,l,b,d,x,o,k,r,y,t⟩;{(simp only[gZ]at d;obtain⟨rfl,rfl,rfl⟩:=d;subst s;have:cs=[]:=by simpa using j);subst this;exact Sl.nil w};(simp only[gZ]at d;obtain⟨rfl,rfl,rfl⟩:=d;refine⟨by simpa using j,k,r,fun _=>⟨g,0,rfl,fun i p=>?_⟩⟩;have q:cs.length=n:=by simpa using j);(have m:cs.getD i undef=b.toList.getD i undef:=by rw[<-t];simp[p]);(have f:i<b.size:=by omega);rw[m];simp[World.cell?,o,f]
theorem Of{size:Nat}(h:w.ownsRow base e size v n xs)(k:Ext w w'):w'.ownsRow base e size v n xs:=by obtain⟨h1,h2⟩:=h;refine⟨h1,?_⟩;rcases h2 with h2|⟨g,a,b,i,f,d,r⟩;{exact Or.inl h2};(refine Or.inr ⟨g,a,b,i,f,?_,r⟩;have c:g<w.heap.size:=by rcases iE g w.heap.size with h|h;{exact h};simp[jP h]at d);rw[k.block c,d]
def Own(w:World)(base:Nat)(e:TypeId)(a:Option Addr)(n c:Nat)(cs:List Value):Prop:=w.ownsRow base e 1 (.slice a n c) n cs
def BS(P:Program)(e:TypeId)(z:Value)(bytes:Nat):Prop :=
 (P.info? e).map (fun i=>(i.zero,i.size,i.bytes))=some (some z,1,bytes)
def blk(a:Option Addr):Option Nat:=a.map (·.block)
section
variable {w w':World} {base:Nat} {e:TypeId} {a:Option Addr} {n c:Nat} {cs:List Value}
theorem Own.sl(h:Own w base e a n c cs):Sl w a n c cs:=Sl.of_owns h
theorem Own.ext(h:Own w base e a n c cs)(k:Ext w w'):Own w' base e a n c cs:=Of h k
theorem Own.len(h:Own w base e a n c cs):cs.length=n:=h.sl.len
theorem Own.cap(h:Own w base e a n c cs):n<=c:=h.sl.cap
theorem Own.nil(w:World)(base:Nat)(e:TypeId):Own w base e none 0 0 []:=World.ownsRow_nil w base e 1
theorem Own.lt(h:Own w base e a n c cs){k:Nat}(d:blk a=some k):base<=k/\k<w.heap.size:=by refine World.ownsRow.lt h k ?_;cases a with|none=>{simp[blk]at d}|some b=>simpa[blk,Value.ownBlock]using d
theorem Own.mono(h:Own w base e a n c cs)(i:base'<=base):Own w base' e a n c cs:=by obtain⟨h1,h2⟩:=h;refine⟨h1,?_⟩;rcases h2 with h2|⟨g,b,d,f,j,r⟩;{exact Or.inl h2};exact Or.inr ⟨g,b,d,f,by omega,r⟩
theorem Own.kept{row:Option Nat}(h:Own w base e a n c cs)(f:w.grownBy w' row)(d:blk a=none\/blk a≠row):Own w' base e a n c cs:=by refine World.ownsRow.kept h f ?_;cases a with|none=>{left;rfl}|some b=>right;rcases d with h|h;{simp[blk]at h};simpa[blk,Value.ownBlock]using h
theorem Own.drewN(h:Own w base e a n c cs)(k:Nat):Own (w.drewN k) base e a n c cs:=h
theorem Own.alloc(h:Own w base e a n c cs)(o:Obj):Own (w.alloc o) base e a n c cs:=World.ownsRow.alloc h o
theorem Own.place(h:Own w base e a n c cs)(k:0<n):∃g,a=some ⟨g,0,none⟩/\base<=g/\g<w.heap.size:=by rcases h.2 with⟨_,h0⟩|⟨g,d,f,b,i,j,_⟩;{omega};simp only[gZ]at b;refine⟨g,b.1,i,?_⟩;rcases iE g w.heap.size with h|h;{exact h};simp[jP h]at j
end
section
variable {w:World} {base:Nat} {e:TypeId} {g n c:Nat} {cs:List Value}
theorem Own.cellAt(h:Own w base e (some ⟨g,0,none⟩) n c cs){j:Nat}(a:j<n):w.cell? ⟨g,j,none⟩=some (cs.getD j undef):=by (have h1:=World.ownsRow.cellAt h j (by omega);have h2:j<cs.length:=by have:=h.len;omega);rw[h1];simp[h2]
theorem Own.frozenAt(h:Own w base e (some ⟨g,0,none⟩) n c cs)(j:Nat):w.frozen? ⟨g,j,none⟩=false:=World.ownsRow.frozenAt h j
theorem Own.stored(h:Own w base e (some ⟨g,0,none⟩) n c cs)(j:Nat)(u:Value):Own (w.setCell ⟨g,j,none⟩ u) base e (some ⟨g,0,none⟩) n c (cs.set j u):=(World.ownsRow.stored h j u).1
end
theorem AC(w:World)(base:Nat)(e:TypeId)(cs:Array Value)(n:Nat)(b:cs.size=n)(a:base<=w.heap.size)(c:n<=1000000):Own (w.alloc (.cells cs e)) base e (some ⟨w.heap.size,0,none⟩) n n cs.toList:=by subst b;exact oL w cs cs.size a (by unfold maxLen;omega) (by omega)
theorem Sl.alloc{w:World}{a:Option Addr}{n c:Nat}{cs:List Value}(h:Sl w a n c cs)(o:Obj):Sl (w.alloc o) a n c cs:=h.ext ((Ext.refl w).alloc o)
theorem Sl.upto{c:Nat}(h:Sl w a n c cs){k:Nat}(j:k<=n):Sl w a k c (cs.take k):=by refine⟨by have:=h.len;simp;omega,by have:=h.cap;omega,h.max,fun h0=>?_⟩;obtain⟨b,d,e,f⟩:=h.rd (by omega);refine⟨b,d,e,fun i g=>?_⟩;rw[f i (by omega)];simp[g]
theorem Am(w:World)(g j:Nat)(u:Value):w.grownBy (w.setCell ⟨g,j,none⟩ u) (some g) := ⟨rfl,rfl,rfl,by simp[World.setCell],fun k _ a=>by simp only[World.setCell,l4];rw[gQ (by rintro rfl;exact a rfl)]⟩
def Arr(w:World)(g:Nat)(t:TypeId)(cs:List Value):Prop:=w.heap[g]?=some (.cells cs.toArray t (0,0))
section
variable {w w':World} {g:Nat} {t:TypeId} {cs:List Value}
theorem Arr.lt(h:Arr w g t cs):g<w.heap.size:=by rcases iE g w.heap.size with b|a;{exact b};unfold Arr at h;rw[jP a]at h;cases h
theorem Arr.cell(h:Arr w g t cs){i:Nat}(hi:i<cs.length):w.cell? ⟨g,i,none⟩=some (cs.getD i undef):=by unfold Arr at h;simp[World.cell?,h,hi]
theorem Arr.c(h:Arr w g t cs)(i:Nat){v:Value}(a:cs[i]?=some v):w.cell? ⟨g,i,none⟩=some v:=by rw[h.cell (i:=i) (by rcases iE i cs.length with h|h;exact h;simp[ic h]at a),gqq,a];rfl
theorem Arr.frozen(h:Arr w g t cs)(i:Nat):w.frozen? ⟨g,i,none⟩=false:=by unfold Arr at h;simp[World.frozen?,h]
theorem Arr.new(w:World)(t:TypeId)(cs:List Value):Arr (w.alloc (.cells cs.toArray t)) w.heap.size t cs:=mF w _
theorem Arr.set(h:Arr w g t cs)(i:Nat)(u:Value):Arr (w.setCell ⟨g,i,none⟩ u) g t (cs.set i u):=by unfold Arr at h|-;simp[World.setCell,l4,h]
theorem Arr.sl(h:Arr w g t cs){k:Nat}(b:k<=cs.length)(c:cs.length<=maxLen):Sl w (some ⟨g,0,none⟩) k cs.length (cs.take k):=by refine⟨by simp;omega,b,c,fun _=>⟨g,0,rfl,fun i a=>?_⟩⟩;rw[iy,h.cell (by omega)];simp[a]
theorem Arr.ext(h:Arr w g t cs)(k:Ext w w'):Arr w' g t cs:=(k.block h.lt).trans h
theorem Arr.kept(h:Arr w g t cs)(a:w.grownBy w' row)(b:some g≠row):Arr w' g t cs:=(a.block g h.lt b).trans h
theorem Arr.drewN(h:Arr w g t cs)(n:Nat):Arr (w.drewN n) g t cs:=h
theorem Arr.alloc(h:Arr w g t cs)(o:Obj):Arr (w.alloc o) g t cs:=(Below.heap_alloc w o g h.lt).trans h
theorem Arr.far(h:Arr w g t cs){p:Addr}(hp:g≠p.block)(u:Value):Arr (w.setCell p u) g t cs:=(Below.heap_setCell w p u g hp).trans h
end
section
variable {P:Program} {w:World}
theorem Q8{c:Nat}{m:Nat}(I:P.underlying t=some (.slice e))(v:BS P e z bytes)(J:z.cells.size=1)(d:Own w base e a n c xs)(f:Sl w A m cx news)(h1:∀u∈news,u.oneCell'=true)(h63:n+m<=maxLen)(k:(n+m)*bytes<=140737488355328)(s:base<=w.heap.size):∃C L y,(Builtin.append_ #[t,t] ty #[.slice a n c,.slice A m cx]).run P w=.ok (.slice C (n+m) L) y/\Own y base e C (n+m) L (xs++news) /\ w.grownBy y (blk a)/\(blk C=blk a\/blk C=some w.heap.size):=by (obtain⟨i,F,Q,x,E⟩:=nR v;have p:(Value.slice a n c).ownBlock=blk a:=by cases a<;>rfl);rcases A with _|K;{(have N:m=0:=by rcases gT m with h0|h0;{exact h0};obtain⟨b,o,h,_⟩:=f.rd h0;cases h);subst N;have O:news=[]:=gN f.len;subst O;refine⟨a,c,w,?_,by simpa using d,nI w _,.inl rfl⟩;rcases d.2 with⟨q,rfl⟩|⟨g,B,D,q,_,_,H,_⟩;{simp only[gZ]at q;obtain⟨rfl,_,rfl⟩:=q;simp[Builtin.append_,iU I,sizeOf,typeInfo,F,Builtin.lenOf,Builtin.firstCells]};simp only[gZ]at q;obtain⟨rfl,_,rfl⟩:=q;simp[Builtin.append_,iU I,sizeOf,typeInfo,F,Builtin.lenOf,Builtin.firstCells,H,storeCells]};(have l:∀j u,news[j]?=some u->w.cell? (K.add j)=some u:=by (intro j u hu;have R:j<news.length:=by rcases iE j news.length with h|h;{exact h};simp[ic h]at hu);(have G:j<m:=by have:=f.len;omega);(obtain⟨b,o,h,M⟩:=f.rd (by omega);injection h with h;subst h;have h2:=M j G;have h3:news.getD j undef=u:=by rw[gqq,hu];rfl);rw[h3]at h2;rw[<-h2];unfold Addr.add;by_cases h0:j=0<;>simp[h0]);obtain⟨S,y,r,h2,h3,_,h5⟩:=run_append_own_at (P:=P) w base t ty e i z 1 bytes I F Q x E J (by omega) (.slice a n c) n xs d K m cx news (by have:=f.len;omega) l h1 h63 k s;rcases h2.2 with⟨q,h0⟩|⟨g,B,D,q,_⟩;{subst q;refine⟨none,0,y,by rw[r,h0],?_,by rw[<-p];exact h3,by rw[<-p];exact h5⟩;unfold Own;rw[h0]at h2|-;exact h2};subst q;exact⟨_,B,y,r,h2,by rw[<-p];exact h3,by rw[<-p];exact h5⟩
theorem Xx{K:Act->World->Prop}(y:o.op=.call {callee := .builtin .append,args:=#[s,x],argTypes:=#[t,t]}){e:TypeId}{z:Value}{bytes base:Nat}{a:Option Addr}{n c:Nat}{xs:List Value}{A:Option Addr}{m v:Nat}{news:List Value}(C:P.underlying t=some (.slice e))(g:BS P e z bytes)(r:z.cells.size=1)(B:f.eval s=.slice a n c)(j:Own w base e a n c xs)(D:f.eval x=.slice A m v)(q:Sl w A m v news)(h1:∀u∈news,u.oneCell'=true)(h63:n+m<=maxLen)(b:(n+m)*bytes<=140737488355328)(d:base<=w.heap.size)(h:∀i p l,Own l base e i (n+m) p (xs++news)->w.grownBy l (blk a)->(blk i=blk a\/blk i=some w.heap.size)->K (f.put o.dst (.slice i (n+m) p)) l):o.wp P f w K Q:=by obtain⟨i,p,l,k,h2,h3,h4⟩:=Q8 (P:=P) (ty:=o.type) C g r j q h1 h63 b d;unfold Oper.wp execOp;simp only[y,resolve,invoke,builtin,ip,iM,gR,kB,j7,jL,B,D,k];exact h i p l h2 h3 h4
theorem Cg(p:o.guard=none)(B:o.op=.call {callee := .builtin .append,args:=#[s,x],argTypes:=#[t,t]}){e:TypeId}{z:Value}{bytes base:Nat}{a:Option Addr}{n c:Nat}{xs:List Value}{A:Option Addr}{m v:Nat}{news:List Value}(D:P.underlying t=some (.slice e))(g:BS P e z bytes)(r:z.cells.size=1)(C:f.eval s=.slice a n c)(j:Own w base e a n c xs)(E:f.eval x=.slice A m v)(q:Sl w A m v news)(h1:∀u∈news,u.oneCell'=true)(h63:n+m<=maxLen)(b:(n+m)*bytes<=140737488355328)(d:base<=w.heap.size)(h:∀i l k,Own k base e i (n+m) l (xs++news)->w.grownBy k (blk a)->(blk i=blk a\/blk i=some w.heap.size)->wpList P ops Q rest (f.put o.dst (.slice i (n+m) l)) k):wpList P ops Q (o::rest) f w := jh p fun _ y=>Xx B D g r C j E q h1 h63 b d fun i l k h2 h3 h4=>y _ _ (h i l k h2 h3 h4)
theorem TZ(k:P.underlying t=some (.slice e))(a:BS P e z bytes)(f:z.cells=#[z])(g:bytes*n<=281474976710656)(h63:n<=maxLen):∃c,(Instr.makeSlice t (.int .i64 n) (.int .i64 n)).run P w=.ok (.slice (some ⟨w.heap.size,0,none⟩) n n) c/\Own c w.heap.size e (some ⟨w.heap.size,0,none⟩) n n (List.replicate n z)/\Ext w c:=by obtain⟨i,j,l,b,d⟩:=nR a;obtain⟨c,h1,h2,h3⟩:=run_make_full (P:=P) w w.heap.size t e i z 1 k j l b .i64 .i64 n (by rw[d];exact g) h63 (lrf _);refine⟨c,h1,?_,(Ext.refl w).grown h3 (by simp)⟩;rw[k9,f,toList_madeCells_one]at h2;exact h2
theorem CM{c:Operand}(q:o.guard=none)(i:o.op=Op.makeSlice t l c){e:TypeId}{z:Value}{bytes n:Nat}(s:P.underlying t=some (.slice e))(a:BS P e z bytes)(j:z.cells=#[z])(r:f.eval l=.int .i64 n)(p:f.eval c=.int .i64 n)(m:bytes*n<=281474976710656)(h63:n<=maxLen)(k:∀d,Own d w.heap.size e (some ⟨w.heap.size,0,none⟩) n n (List.replicate n z)->Ext w d->wpList P ops Q rest (f.put o.dst (.slice (some ⟨w.heap.size,0,none⟩) n n)) d):wpList P ops Q (o::rest) f w:=by refine jh q fun K g=>?_;obtain⟨d,b,h2,h3⟩:=TZ (P:=P) (w:=w) s a j m h63;unfold Oper.wp execOp;simp only[i,ip,iM,gR,r,p,b,Oper.upon];exact g _ _ (k d h2 h3)
end
def Agg(P:Program)(ty:TypeId)(n:Nat):Prop :=
 (P.underlying ty).map (fun d=>match d with|.struct _|.array _ _=>true|_=>false)=some true/\(P.info? ty).map (·.size)=some n
theorem Agg.parts(h:Agg P ty n):∃d,P.underlying ty=some d/\(match d with|.struct _|.array _ _=>true|_=>false)=true/\(P.info? ty).map (·.size)=some n:=by obtain⟨h1,h2⟩:=h;cases hu:P.underlying ty with|none=>{rw[hu]at h1;cases h1}|some d=>rw[hu]at h1;exact⟨d,rfl,by simpa using h1,h2⟩
theorem BJ(w:World)(g:Nat)(cs:Array Value):w.grownBy (w.setRow g cs) (some g):=by refine⟨rfl,rfl,rfl,by simp[World.setRow],fun k _ a=>?_⟩;simp only[World.setRow,l4];rw[gQ (by rintro rfl;exact a rfl)]
theorem Ch(h:Arr w g t cs)(vs:List Value):Arr (w.setRow g vs.toArray) g t vs:=by unfold Arr at h|-;simp[World.setRow,l4,h]
section
variable {P:Program} {w:World}
theorem Og(a:Agg P ty cs.length)(h:Arr w g t cs):(Instr.loadAt ty (.pointer (some ⟨g,0,none⟩))).run P w=.ok (.agg cs.toArray) w:=by obtain⟨d,hu,b,c⟩:=a.parts;have:=run_loadVar_row (P:=P) w g t ty cs.toArray (0,0) d h hu (by cases d<;>first|rfl|exact absurd b (by simp)) (by simpa using c);simp[Instr.loadAt,Instr.sureAddr,this]
theorem DA(a:Agg P ty vs.length)(h:Arr w g t cs)(c:cs.length=vs.length)(h1:∀v∈vs,v.oneCell'=true):(Instr.storeAt ty (.pointer (some ⟨g,0,none⟩)) (.agg vs.toArray)).run P w=.ok () (w.setRow g vs.toArray):=by obtain⟨d,hu,e,b⟩:=a.parts;have:=run_storeVar_row (P:=P) w g t ty cs.toArray vs.toArray h (by simpa using b) (by simpa using c) (by simpa using h1);simp[Instr.storeAt,Instr.sureAddr,this]
theorem Er(b:o.guard=none)(e:o.op=.load ty x){g:Nat}{t:TypeId}{cs:List Value}(d:Agg P ty cs.length)(i:f.eval x=.pointer (some ⟨g,0,none⟩))(h:Arr w g t cs)(c:wpList P ops Q rest (f.put o.dst (.agg cs.toArray)) w):wpList P ops Q (o::rest) f w:=by refine jh b fun K a=>?_;unfold Oper.wp execOp;simp only[e,i,ip,Og d h,gR,iM,Oper.upon];exact a _ _ c
theorem FK{A B C D E:Type}{a:A}{b:B}{c:C}{d:D}{e:E}:a=a/\b=b/\c=c/\d=d/\e=e:=⟨rfl,rfl,rfl,rfl,rfl⟩
theorem Aa(b:o.guard=none)(k:o.op=.store ty x y){g:Nat}{t:TypeId}{cs vs:List Value}{va:Array Value}(l:f.eval x=.pointer (some ⟨g,0,none⟩))(m:f.eval y=.agg va)(c:va=vs.toArray)(i:Agg P ty vs.length)(h:Arr w g t cs)(j:cs.length=vs.length)(h1:∀v∈vs,v.oneCell'=true)(e:∀d,Arr d g t vs->w.grownBy d (some g)->wpList P ops Q rest (f.put o.dst undef) d):wpList P ops Q (o::rest) f w:=by subst c;refine jh b fun K a=>?_;unfold Oper.wp execOp;simp only[k,l,m,ip,DA i h j h1,gR,iM,Oper.upon];exact a _ _ (e _ (Ch h vs) (BJ w g _))
theorem Aj{b:Func}{p:Tmp}(i:b.results=#[.cell p ty]){a:Array Value}{g:Nat}{t:TypeId}{cs:List Value}(c:Agg P ty cs.length)(hp:a.getD p undef=.pointer (some ⟨g,0,none⟩))(h:Arr w g t cs):(results b a).run P w=.ok (.agg cs.toArray) w:=by obtain⟨d,hu,e,f⟩:=c.parts;exact results_cell_row i a w g t cs.toArray (0,0) d hp h hu (by cases d<;>first|rfl|exact absurd e (by simp)) (by simpa using f)
theorem Xy{o l dc m c:Nat}(y:P.underlying dT=some (.slice e))(f:BS P e z bytes)(h:Arr w g t cur)(x:Sl w A m c cs)(G:m<=l)(s:o+m<=cur.length)(h1:∀v∈cs,v.oneCell'=true):∃r,(Builtin.copy_ #[dT,sT] ty #[.slice (some ⟨g,o,none⟩) l dc,.slice A m c]).run P w=.ok (goInt m) r/\Arr r g t (cur.take o++cs++cur.drop (o+m))/\w.grownBy r (some g):=by (obtain⟨i,F,I,k,D⟩:=nR f;have p:(P.info? e).map (·.size)=some 1:=by simp[F,k]);have d:=x.len;by_cases h0:m=0;{subst h0;have:cs=[]:=gN d;subst this;refine⟨w,run_copy_none w dT sT ty e _ _ l dc 0 c y p (by simp),?_,⟨rfl,rfl,rfl,lrf _,fun _ _ _=>rfl⟩⟩;simpa using h};obtain⟨b,q,C,E⟩:=x.rd (by omega);subst C;have n:m.min l=m:=jS G;have:=run_copy_row (P:=P) w dT sT ty e g o l dc ⟨b,q,none⟩ m c cur.toArray t cs y p h (by rw[n];exact d) (by (intro j v B;have H:j<cs.length:=by rcases iE j cs.length with h|h;{exact h};simp[ic h]at B);have h2:=E j (by omega);rw[gqq,B]at h2;rw[<-ib (a:=v) (b:=undef),<-h2.symm.symm];unfold Addr.add;by_cases h3:j=0<;>simp[h3]at h2|-<;>exact h2) (by simp;omega) h1;refine⟨_,?_,Ch h _,BJ w g _⟩;rw[this,d]
theorem LO(n:o.guard=none)(C:o.op=.call {callee := .builtin .copy,args:=#[d,s],argTypes:=#[dT,sT]}){e:TypeId}{z:Value}{bytes g p r dc m c:Nat}{A:Option Addr}{t:TypeId}{a cs:List Value}(E:P.underlying dT=some (.slice e))(b:BS P e z bytes)(y:f.eval d=.slice (some ⟨g,p,none⟩) r dc)(q:f.eval s=.slice A m c)(h:Arr w g t a)(D:Sl w A m c cs)(B:m<=r)(i:p+m<=a.length)(h1:∀v∈cs,v.oneCell'=true)(x:∀k,Arr k g t (a.take p++cs++a.drop (p+m))->w.grownBy k (some g)->wpList P ops Q rest (f.put o.dst (goInt m)) k):wpList P ops Q (o::rest) f w:=by refine jh n fun K l=>?_;obtain⟨k,j,h2,h3⟩:=Xy (P:=P) (ty:=o.type) (sT:=sT) (dc:=dc) E b h D B i h1;unfold Oper.wp execOp;simp only[C,resolve,invoke,builtin,ip,iM,gR,kB,j7,jL,y,q,j,Oper.upon];exact l _ _ (x k h2 h3)
end
def Ct:Nat->List (Int×Value)->List MapEntry
| _,[]=>[]
| i,(k,v)::r=>{key:=(.int .i64 k),val:=v,born:=i}::Ct (i+1) r
structure Bt(w:World)(r:Nat)(m:List (Int×Value)):Prop where
 obj:w.heap[r]?=some (.map (Ct 0 m).toArray m.length)
 nodup:(m.map (·.1)).Nodup
def B6(k:Int):Nat->List (Int×Value)->Option (Nat×Value)
| _,[]=>none
| i,(k',v)::r=>if k=k' then some (i,v)else B6 k (i+1) r
theorem Di{k:Int}:∀{i:Nat} {m:List (Int×Value)},B6 k i m=none<->k∉m.map (·.1)
|_,[]=>by simp[B6]
|i,(k',v)::r=>by unfold B6;by_cases h:k=k';{simp[h]};simp[h,Di (i:=i+1) (m:=r)]
theorem EW:∀(i:Nat) (m:List (Int×Value)),(Ct i m).length=m.length
|_,[]=>rfl
|i,(_,_)::r=>by simp[Ct,EW (i+1) r]
theorem G1:∀(i:Nat) (m:List (Int×Value)) (k:Int) (v:Value),Ct i (m++[(k,v)])=Ct i m++[{key:=(.int .i64 k),val:=v,born:=i+m.length}]
|_,[],_,_=>rfl
|i,(_,_)::r,k,v=>by simp only[jW,Ct,G1 (i+1) r k v,iJ];rw[jK,jJ 1]
section
variable {P:Program} {kt:TypeId} (w:World)
theorem I4(k:Int):∀(m:List (Int×Value)) (b i:Nat),Instr.findNow (.int .i64) (.int .i64 k) (Ct b m) i=some (B6 k i m)
|[],_,_=>rfl
|(k',v)::r,b,i=>by unfold Ct B6 Instr.findNow;by_cases h:k=k';{simp[Instr.sameNow,h]};(have hb:(k==k')=false:=by simpa using h);simp[Instr.sameNow,h,hb,I4 k r (b+1) (i+1)]
theorem G3{k:Int}(a:P.underlying kt=some (.int .i64))(m:List (Int×Value)):(Instr.findKey kt (.int .i64 k) (Ct 0 m)).run P w=.ok (B6 k 0 m) w:=by simp only[Instr.findKey,ip,iU a,gR,I4];rfl
end
theorem MN(k:Int):Instr.sameBits 10000 (.int .i64 k) (.int .i64 k)=true:=by show Instr.sameBits (9999+1) _ _=true;simp[Instr.sameBits]
theorem Bt.lt{m:List (Int×Value)}(h:Bt w r m):r<w.heap.size:=by rcases iE r w.heap.size with b|a;{exact b};have:=h.obj;rw[jP a]at this;cases this
theorem Bt.of_block{m:List (Int×Value)}(h:Bt w r m)(e:w'.heap[r]?=w.heap[r]?):Bt w' r m:=⟨e.trans h.obj,h.nodup⟩
theorem Bt.ext{m:List (Int×Value)}(h:Bt w r m)(e:Ext w w'):Bt w' r m:=h.of_block (e.block h.lt)
theorem Bt.kept{m:List (Int×Value)}(h:Bt w r m)(b:w.grownBy w' row)(a:some r≠row):Bt w' r m:=h.of_block (b.block r h.lt a)
def GH(z:Value)(m:List (Int×Value))(k:Int):Value:=((B6 k 0 m).map (·.2)).getD z
def G4(m:List (Int×Value))(k:Int):Bool:=(B6 k 0 m).isSome
def Fz(m:List (Int×Value))(k:Int)(v:Value):List (Int×Value) :=
 match B6 k 0 m with
| some (i,_)=>m.set i (k,v)
| none=>m++[(k,v)]
theorem CF{k:Int}:∀{j:Nat} {m:List (Int×Value)} {i:Nat} {v:Value},B6 k j m=some (i,v)->j<=i/\m[i-j]?=some (k,v)
|_,[],_,_,h=>by simp[B6]at h
|j,(k',v')::r,i,v,h=>by unfold B6 at h;by_cases hk:k=k';{rw[gX hk]at h;simp only[gL,kW]at h;obtain⟨rfl,rfl⟩:=h;subst hk;simp};rw[gQ hk]at h;obtain⟨h1,h2⟩:=CF h;refine⟨by omega,?_⟩;rw[show i-j=(i-(j+1))+1 by omega];simpa using h2
theorem F7:∀(j:Nat) (m:List (Int×Value)) (i:Nat),(Ct j m)[i]?=(m[i]?).map (fun p=>{key:=(.int .i64 p.1),val:=p.2,born:=j+i})
|_,[],_=>by simp[Ct]
|j,(k,v)::r,0=>by simp[Ct]
|j,(k,v)::r,i+1=>by simp only[Ct,lr,F7 (j+1) r i];rw[jK,jJ 1 i]
theorem St:∀(j:Nat) (m:List (Int×Value)) (i:Nat) (k:Int) (v:Value),i<m.length->Ct j (m.set i (k,v))=(Ct j m).set i {key:=(.int .i64 k),val:=v,born:=j+i}:=by intro j m i k v b;apply kH;intro t;rw[F7,kG,kG,EW];by_cases a:i=t;{subst a;simp[b]};simp[a,F7]
section
variable {P:Program} {kt mt vt:TypeId} {w:World}
theorem Oh(g:P.underlying mt=some (.map kt vt))(f:P.underlying kt=some (.int .i64)){z:Value}(j:(zeroValue vt).run P w=.ok z w){r:Nat}{m:List (Int×Value)}(h:Bt w r m){k:Int}(b:Bool):(Instr.lookup mt (.map (some r)) (.int .i64 k) b).run P w=.ok (if b then .tuple #[GH z m k,.bool (G4 m k)]else GH z m k) w:=by (have d:∀c,(Instr.checkKey c 10000 kt (.int .i64 k)).run P w=.ok () w:=fun c=>by rw[Instr.checkKey];simp[iU f]);have e:=G3 (k:=k) w f m;have i:=h.obj;unfold GH G4;simp only[Instr.lookup,ip,iU g,gR,getObj,Sem.run,i];cases a:B6 k 0 m with|none=>{cases b<;>simp[j,d,e,a]}|some p=>cases b<;>simp[d,e,a]
theorem T0(I:P.underlying mt=some (.map kt vt))(H:P.underlying kt=some (.int .i64)){r:Nat}{m:List (Int×Value)}(h:Bt w r m){k:Int}(v:Value):∃C,(Instr.mapUpdate mt (.map (some r)) (.int .i64 k) v).run P w=.ok () C/\Bt C r (Fz m k v)/\w.grownBy C (some r):=by (have F:∀D,(Instr.checkKey D 10000 kt (.int .i64 k)).run P w=.ok () w:=fun D=>by rw[Instr.checkKey];simp[iU H]);(have G:=G3 (k:=k) w H m;have y:=h.obj;have z:=h.lt;have l:∀o:Obj,w.grownBy {w with heap:=w.heap.setIfInBounds r o} (some r):=by (intro o;refine⟨rfl,rfl,rfl,by simp,fun j _ B=>?_⟩;have:r≠j:=by rintro rfl;exact B rfl);simp only;rw[lV this]);(have s:∀o:Obj,({w with heap:=w.heap.setIfInBounds r o}:World).heap[r]?=some o:=by intro o;simp only;rw[mr z]);unfold Fz;cases c:B6 k 0 m with|none=>{refine⟨_,?_,⟨s (.map (Ct 0 (m++[(k,v)])).toArray (m.length+1))|>.trans (by simp),?_⟩,l _⟩;{simp only[Instr.mapUpdate,ip,iU I,gR,getObj,setObj,Sem.run,y,F];rw[G];simp[c,Sem.run,y,G1]};rw[iO,mU];refine⟨h.nodup,by simp,?_⟩;intro a K b E;simp only[j7,jL,gK]at E;subst E;rintro rfl;exact Di.1 c K}|some p=>(obtain⟨i,J⟩:=p;obtain⟨_,n⟩:=CF c;rw[kY]at n;have d:i<m.length:=by rcases iE i m.length with h|h;{exact h};simp[ic h]at n);(have g:(m.set i (k,v)).map (·.1)=m.map (·.1):=by rw[mN];apply kH;intro t;rw[kG];by_cases x:i=t;{(subst x;have A:m[i]=(k,J):=by rw[gD d]at n;simpa using n);simp[d,A]};simp[x]);refine⟨_,?_,⟨s (.map (Ct 0 (m.set i (k,v))).toArray m.length)|>.trans (by simp),?_⟩,l _⟩;{(simp only[Instr.mapUpdate,ip,iU I,gR,getObj,Sem.run,y,F];rw[G];have f:(Ct 0 m)[i]?=some {key:=(.int .i64 k),val:=J,born:=0+i}:=by rw[F7,n];rfl);(have q:((Ct 0 m).modify i fun e=>{key:=(.int .i64 k),val:=v,born:=e.born})=Ct 0 (m.set i (k,v)):=by rw[St _ _ _ _ _ d];apply kH;intro t;rw[List.getElem?_modify,kG,EW];by_cases x:i=t;{subst x;simp[f,d]};simp[x]);simp[c,f,Instr.keyThatStays,MN,setObj,Sem.run,y,q]};rw[g];exact h.nodup
end
section
variable {P:Program} {kt mt vt:TypeId} {w:World}
theorem Su(c:o.guard=none)(e:o.op=.makeMap mt none)(d:∀a,Bt a w.heap.size []->Ext w a->w.heap.size<a.heap.size->wpList P ops Q rest (f.put o.dst (.map (some w.heap.size))) a):wpList P ops Q (o::rest) f w:=by (refine jh c fun K b=>?_;unfold Oper.wp execOp;have g:(Instr.makeMap mt none).run P w=.ok (.map (some w.heap.size)) (w.alloc (.map #[] 0)):=by simp[Instr.makeMap,newObj,Sem.run]);simp only[e,ou,ip,g,gR,iM,Oper.upon];exact b _ _ (d _ ⟨mF w _,by simp⟩ ((Ext.refl w).alloc _) (by simp))
theorem DL(b:o.guard=none)(g:o.op=.lookup mt x y ok)(e:P.underlying mt=some (.map kt vt))(d:P.underlying kt=some (.int .i64)){z:Value}(l:∀w,(zeroValue vt).run P w=.ok z w){r:Nat}{m:List (Int×Value)}{k:Int}(i:f.eval x=.map (some r))(j:f.eval y=(.int .i64 k))(h:Bt w r m)(c:wpList P ops Q rest (f.put o.dst (if ok then .tuple #[GH z m k,.bool (G4 m k)]else GH z m k)) w):wpList P ops Q (o::rest) f w:=by refine jh b fun K a=>?_;unfold Oper.wp execOp;simp only[g,i,j,ip,Oh e d (l w) h ok,gR,iM,Oper.upon];exact a _ _ c
theorem VV(e:o.guard=none)(c:o.op=.mapUpdate mt x y u\/o.op=.insert mt x y u)(j:P.underlying mt=some (.map kt vt))(i:P.underlying kt=some (.int .i64)){r:Nat}{m:List (Int×Value)}{k:Int}{v:Value}(l:f.eval x=.map (some r))(n:f.eval y=(.int .i64 k))(hu:f.eval u=v)(h:Bt w r m)(g:∀b,Bt b r (Fz m k v)->w.grownBy b (some r)->wpList P ops Q rest (f.put o.dst undef) b):wpList P ops Q (o::rest) f w:=by refine jh e fun K d=>?_;obtain⟨b,a,h2,h3⟩:=T0 (k:=k) j i h v;unfold Oper.wp execOp;rcases c with c|c;all_goals simp only[c,l,n,hu,ip,a,gR,iM,Oper.upon];exact d _ _ (g b h2 h3)
end
def BH(k:List Int):Value := .agg (k.map (Value.int .i64)).toArray
structure G5(P:Program)(kt et:TypeId):Prop where
 arr:P.underlying kt=some (.array 6 et)
 int:P.underlying et=some (.int .i64)
 size:(P.info? et).map (·.size)=some 1
theorem six(h:k.length=6):∃a b c d e f,k=[a,b,c,d,e,f]:=by match k,h with|[a,b,c,d,e,f],_=>exact⟨a,b,c,d,e,f,rfl⟩
section
variable {P:Program} {kt et:TypeId} (w:World)
theorem AW(a:G5 P kt et)(cs:Array Value)(i:Nat)(v:Value)(h:cs[i]?=some v):(part et cs i).run P w=.ok v w:=by simp[part,isAgg,iU a.int,h]
theorem Ju(c:G5 P kt et)(d:Nat)(a b:Int):(Op.equalIn (d+1) et (.int .i64 a) (.int .i64 b)).run P w=.ok (a==b) w:=by simp[Op.equalIn,iU c.int]
theorem Ll(l:G5 P kt et)(d:Nat){a b:List Int}(A:a.length=6)(B:b.length=6):(Op.equalIn (d+2) kt (BH a) (BH b)).run P w=.ok (decide (a=b)) w:=by (obtain⟨m,n,o,p,q,r,rfl⟩:=six A;obtain⟨s,t,v,x,y,z,rfl⟩:=six B;obtain⟨i,C,F⟩:∃i,P.info? et=some i/\i.size=1:=by have:=l.size;cases h:P.info? et with|none=>{rw[h]at this;cases this}|some i=>rw[h]at this;exact⟨i,rfl,by simpa using this⟩);have D:List.range' 0 6=[0,1,2,3,4,5]:=rfl;have he:=fun(a b:Int) (w:World)=>Ju w l d a b;have G:∀(c e f g j k:Value) (w:World),(part et #[c,e,f,g,j,k] 0).run P w=.ok c w:=fun _ _ _ _ _ _ w=>AW w l _ 0 _ rfl;have H:∀(c e f g j k:Value) (w:World),(part et #[c,e,f,g,j,k] 1).run P w=.ok e w:=fun _ _ _ _ _ _ w=>AW w l _ 1 _ rfl;have I:∀(c e f g j k:Value) (w:World),(part et #[c,e,f,g,j,k] 2).run P w=.ok f w:=fun _ _ _ _ _ _ w=>AW w l _ 2 _ rfl;have J:∀(c e f g j k:Value) (w:World),(part et #[c,e,f,g,j,k] 3).run P w=.ok g w:=fun _ _ _ _ _ _ w=>AW w l _ 3 _ rfl;have K:∀(c e f g j k:Value) (w:World),(part et #[c,e,f,g,j,k] 4).run P w=.ok j w:=fun _ _ _ _ _ _ w=>AW w l _ 4 _ rfl;have L:∀(c e f g j k:Value) (w:World),(part et #[c,e,f,g,j,k] 5).run P w=.ok k w:=fun _ _ _ _ _ _ w=>AW w l _ 5 _ rfl;rw[Op.equalIn];simp only[BH,ip,iU l.arr,gR];generalize M:Op.equalIn (d+1) et=E at*;simp[sizeOf,typeInfo,C,F,D,G,H,I,J,K,L,he];by_cases h0:m=s<;>simp[h0];by_cases h1:n=t<;>simp[h1];by_cases h2:o=v<;>simp[h2];by_cases h3:p=x<;>simp[h3];by_cases h4:q=y<;>simp[h4];by_cases h5:r=z<;>simp[h5]
theorem Ik(c:G5 P kt et)(b:Bool)(d:Nat)(a:Int):(Instr.checkKey b (d+1) et (.int .i64 a)).run P w=.ok () w:=by rw[Instr.checkKey];simp[iU c.int]
theorem G6(k:G5 P kt et)(l:Bool)(d:Nat){a:List Int}(m:a.length=6):(Instr.checkKey l (d+2) kt (BH a)).run P w=.ok () w:=by (obtain⟨y,z,A,B,C,D,rfl⟩:=six m;obtain⟨i,n,p⟩:∃i,P.info? et=some i/\i.size=1:=by have:=k.size;cases h:P.info? et with|none=>{rw[h]at this;cases this}|some i=>rw[h]at this;exact⟨i,rfl,by simpa using this⟩);have o:List.range' 0 6=[0,1,2,3,4,5]:=rfl;have he:=fun(a:Int) (w:World)=>Ik w k l d a;have q:∀(b c e f g j:Value) (w:World),(part et #[b,c,e,f,g,j] 0).run P w=.ok b w:=fun _ _ _ _ _ _ w=>AW w k _ 0 _ rfl;have r:∀(b c e f g j:Value) (w:World),(part et #[b,c,e,f,g,j] 1).run P w=.ok c w:=fun _ _ _ _ _ _ w=>AW w k _ 1 _ rfl;have s:∀(b c e f g j:Value) (w:World),(part et #[b,c,e,f,g,j] 2).run P w=.ok e w:=fun _ _ _ _ _ _ w=>AW w k _ 2 _ rfl;have t:∀(b c e f g j:Value) (w:World),(part et #[b,c,e,f,g,j] 3).run P w=.ok f w:=fun _ _ _ _ _ _ w=>AW w k _ 3 _ rfl;have v:∀(b c e f g j:Value) (w:World),(part et #[b,c,e,f,g,j] 4).run P w=.ok g w:=fun _ _ _ _ _ _ w=>AW w k _ 4 _ rfl;have x:∀(b c e f g j:Value) (w:World),(part et #[b,c,e,f,g,j] 5).run P w=.ok j w:=fun _ _ _ _ _ _ w=>AW w k _ 5 _ rfl;rw[Instr.checkKey];simp only[BH,ip,iU k.arr,gR];generalize F:Instr.checkKey l (d+1) et=E at*;simp[sizeOf,typeInfo,n,p,o,q,r,s,t,v,x,he]
end
def B8:Nat->List (List Int×Value)->List MapEntry
| _,[]=>[]
| i,(k,v)::r=>{key:=BH k,val:=v,born:=i}::B8 (i+1) r
structure Br(w:World)(r:Nat)(m:List (List Int×Value)):Prop where
 obj:w.heap[r]?=some (.map (B8 0 m).toArray m.length)
 six:∀p∈m,p.1.length=6
 nodup:(m.map (·.1)).Nodup
def CG(k:List Int):Nat->List (List Int×Value)->Option (Nat×Value)
| _,[]=>none
| i,(k',v)::r=>if k=k' then some (i,v)else CG k (i+1) r
theorem GI{k:List Int}:∀{i:Nat} {m:List (List Int×Value)},CG k i m=none<->k∉m.map (·.1)
|_,[]=>by simp[CG]
|i,(k',v)::r=>by unfold CG;by_cases h:k=k';{simp[h]};simp[h,GI (i:=i+1) (m:=r)]
theorem Ee:∀(i:Nat) (m:List (List Int×Value)),(B8 i m).length=m.length
|_,[]=>rfl
|i,(_,_)::r=>by simp[B8,Ee (i+1) r]
theorem I5:∀(i:Nat) (m:List (List Int×Value)) (k:List Int) (v:Value),B8 i (m++[(k,v)])=B8 i m++[{key:=BH k,val:=v,born:=i+m.length}]
|_,[],_,_=>rfl
|i,(_,_)::r,k,v=>by simp only[jW,B8,I5 (i+1) r k v,iJ];rw[jK,jJ 1]
section
variable {P:Program} {kt et:TypeId} (w:World)
theorem FA(d:G5 P kt et){k:List Int}(h6:k.length=6):∀(m:List (List Int×Value)) (b i:Nat),(∀p∈m,p.1.length=6)->(Instr.findAsking kt (BH k) (B8 b m) i).run P w=.ok (CG k i m) w
|[],_,_,_=>by simp[Instr.findAsking,B8,CG]
|(k',v)::r,b,i,h=>by have h1:k'.length=6:=h (k',v) (by simp);have c:(Op.equal kt (BH k) (BH k')).run P w=.ok (decide (k=k')) w:=Ll w d 9998 h6 h1;have e:=FA d h6 r (b+1) (i+1) (fun p hp=>h p (by simp[hp]));unfold B8 CG;rw[Instr.findAsking];simp only[ip,c,gR];by_cases a:k=k';{simp[a]};simp[a,e]
theorem I6(a:G5 P kt et){k:List Int}(h6:k.length=6)(m:List (List Int×Value))(h:∀p∈m,p.1.length=6):(Instr.findKey kt (BH k) (B8 0 m)).run P w=.ok (CG k 0 m) w:=by (have c:Instr.findNow (.array 6 et) (BH k) (B8 0 m) 0=if m=[]then some none else none:=by cases m with|nil=>{rfl}|cons p r=>obtain⟨d,v⟩:=p;simp[B8,Instr.findNow,Instr.sameNow]);simp only[Instr.findKey,ip,iU a.arr,gR,c];by_cases b:m=[];{subst b;simp[CG]};simp[b,FA w a h6 m 0 0 h]
end
theorem Br.lt(h:Br w r m):r<w.heap.size:=by rcases iE r w.heap.size with b|a;{exact b};have:=h.obj;rw[jP a]at this;cases this
theorem Br.of_block(h:Br w r m)(e:w'.heap[r]?=w.heap[r]?):Br w' r m:=⟨e.trans h.obj,h.six,h.nodup⟩
theorem Br.ext(h:Br w r m)(e:Ext w w'):Br w' r m:=h.of_block (e.block h.lt)
theorem Br.kept(h:Br w r m)(b:w.grownBy w' row)(a:some r≠row):Br w' r m:=h.of_block (b.block r h.lt a)
def Fs(z:Value)(m:List (List Int×Value))(k:List Int):Value:=((CG k 0 m).map (·.2)).getD z
def Xz(m:List (List Int×Value))(k:List Int):Bool:=(CG k 0 m).isSome
def Oi(m:List (List Int×Value))(k:List Int)(v:Value):List (List Int×Value) :=
 match CG k 0 m with
| some (i,_)=>m.set i (k,v)
| none=>m++[(k,v)]
theorem J0{k:List Int}:∀{j:Nat} {m:List (List Int×Value)} {i:Nat} {v:Value},CG k j m=some (i,v)->j<=i/\m[i-j]?=some (k,v)
|_,[],_,_,h=>by simp[CG]at h
|j,(k',v')::r,i,v,h=>by unfold CG at h;by_cases hk:k=k';{rw[gX hk]at h;simp only[gL,kW]at h;obtain⟨rfl,rfl⟩:=h;subst hk;simp};rw[gQ hk]at h;obtain⟨h1,h2⟩:=J0 h;refine⟨by omega,?_⟩;rw[show i-j=(i-(j+1))+1 by omega];simpa using h2
theorem Es:∀(j:Nat) (m:List (List Int×Value)) (i:Nat),(B8 j m)[i]?=(m[i]?).map (fun p=>{key:=BH p.1,val:=p.2,born:=j+i})
|_,[],_=>by simp[B8]
|j,(k,v)::r,0=>by simp[B8]
|j,(k,v)::r,i+1=>by simp only[B8,lr,Es (j+1) r i];rw[jK,jJ 1 i]
theorem T3:∀(j:Nat) (m:List (List Int×Value)) (i:Nat) (k:List Int) (v:Value),i<m.length->B8 j (m.set i (k,v))=(B8 j m).set i {key:=BH k,val:=v,born:=j+i}:=by intro j m i k v b;apply kH;intro t;rw[Es,kG,kG,Ee];by_cases a:i=t;{subst a;simp[b]};simp[a,Es]
theorem MO(k:List Int):Instr.sameBits 10000 (BH k) (BH k)=true:=by (have h:∀(l:List Value) (n:Nat),(∀v∈l,∃a,v=Value.int .i64 a)->(l.zip l).all (fun x=>Instr.sameBits n x.1 x.2)=true:=by intro l n;induction l with|nil=>{intro _;rfl}|cons v r ih=>intro b;obtain⟨a,rfl⟩:=b v (by simp);simp only[List.zip_cons_cons,List.all_cons,ju];refine⟨?_,ih (fun u hu=>b u (by simp[hu]))⟩;cases n<;>simp[Instr.sameBits]);show Instr.sameBits (9999+1) (.agg _) (.agg _)=true;rw[Instr.sameBits];simp only[beq_self_eq_true,Bool.true_and];exact h _ 9999 (by intro v b;simp only[gY]at b;obtain⟨a,_,rfl⟩:=b;exact⟨a,rfl⟩)
section
variable {P:Program} {kt et mt vt:TypeId} {w:World}
theorem J1(g:P.underlying mt=some (.map kt vt))(f:G5 P kt et){z:Value}(j:(zeroValue vt).run P w=.ok z w){r:Nat}{m:List (List Int×Value)}(h:Br w r m){k:List Int}(h6:k.length=6)(b:Bool):(Instr.lookup mt (.map (some r)) (BH k) b).run P w=.ok (if b then .tuple #[Fs z m k,.bool (Xz m k)]else Fs z m k) w:=by have d:∀c,(Instr.checkKey c 10000 kt (BH k)).run P w=.ok () w:=fun c=>G6 w f c 9998 h6;have e:=I6 w f h6 m h.six;have i:=h.obj;unfold Fs Xz;simp only[Instr.lookup,ip,iU g,gR,getObj,Sem.run,i];cases a:CG k 0 m with|none=>{cases b<;>simp[j,d,e,a]}|some p=>cases b<;>simp[d,e,a]
theorem VW(J:P.underlying mt=some (.map kt vt))(I:G5 P kt et){r:Nat}{m:List (List Int×Value)}(h:Br w r m){k:List Int}(h6:k.length=6)(v:Value):∃E,(Instr.mapUpdate mt (.map (some r)) (BH k) v).run P w=.ok () E/\Br E r (Oi m k v)/\w.grownBy E (some r):=by (have G:∀A,(Instr.checkKey A 10000 kt (BH k)).run P w=.ok () w:=fun A=>G6 w I A 9998 h6;have H:=I6 w I h6 m h.six;have z:=h.obj;have B:=h.lt;have l:∀o:Obj,w.grownBy {w with heap:=w.heap.setIfInBounds r o} (some r):=by (intro o;refine⟨rfl,rfl,rfl,by simp,fun j _ D=>?_⟩;have:r≠j:=by rintro rfl;exact D rfl);simp only;rw[lV this]);(have x:∀o:Obj,({w with heap:=w.heap.setIfInBounds r o}:World).heap[r]?=some o:=by intro o;simp only;rw[mr B]);unfold Oi;cases d:CG k 0 m with|none=>{refine⟨_,?_,⟨x (.map (B8 0 (m++[(k,v)])).toArray (m.length+1))|>.trans (by simp),?_,?_⟩,l _⟩;{simp only[Instr.mapUpdate,ip,iU J,gR,getObj,setObj,Sem.run,z,G];rw[H];simp[d,Sem.run,z,I5]};{intro p hp;rcases iA.1 hp with hp|hp;{exact h.six p hp};simp only[gK]at hp;subst hp;exact h6};rw[iO,mU];refine⟨h.nodup,by simp,?_⟩;intro a L b F;simp only[j7,jL,gK]at F;subst F;rintro rfl;exact GI.1 d L}|some p=>(obtain⟨i,K⟩:=p;obtain⟨_,n⟩:=J0 d;rw[kY]at n;have f:i<m.length:=by rcases iE i m.length with h|h;{exact h};simp[ic h]at n);(have c:(m.set i (k,v)).map (·.1)=m.map (·.1):=by rw[mN];apply kH;intro t;rw[kG];by_cases y:i=t;{(subst y;have C:m[i]=(k,K):=by rw[gD f]at n;simpa using n);simp[f,C]};simp[y]);refine⟨_,?_,⟨x (.map (B8 0 (m.set i (k,v))).toArray m.length)|>.trans (by simp),?_,?_⟩,l _⟩;{(simp only[Instr.mapUpdate,ip,iU J,gR,getObj,Sem.run,z,G];rw[H];have g:(B8 0 m)[i]?=some {key:=BH k,val:=K,born:=0+i}:=by rw[Es,n];rfl);(have s:((B8 0 m).modify i fun e=>{key:=BH k,val:=v,born:=e.born})=B8 0 (m.set i (k,v)):=by rw[T3 _ _ _ _ _ f];apply kH;intro t;rw[List.getElem?_modify,kG,Ee];by_cases y:i=t;{subst y;simp[g,f]};simp[y]);simp[d,g,Instr.keyThatStays,MO,setObj,Sem.run,z,s]};{intro p hp;have:p.1∈(m.set i (k,v)).map (·.1):=jd hp;rw[c]at this;obtain⟨q,M,e⟩:=gY.1 this;rw[<-e];exact h.six q M};rw[c];exact h.nodup
end
def AL(w:World)(it r n:Nat)(seen:List Nat):Prop:=w.heap[it]?=some (.mapIter (some r) n seen.toArray n)
theorem AL.lt(h:AL w it r n seen):it<w.heap.size:=by rcases iE it w.heap.size with b|a;{exact b};unfold AL at h;rw[jP a]at h;cases h
theorem AL.ext(h:AL w it r n seen)(e:Ext w w'):AL w' it r n seen:=(e.block h.lt).trans h
theorem AL.kept(h:AL w it r n seen)(b:w.grownBy w' row)(a:some it≠row):AL w' it r n seen:=(b.block it h.lt a).trans h
theorem Oj{e:MapEntry}(h:e∈B8 0 m):∃i k v,m[i]?=some (k,v)/\e={key:=BH k,val:=v,born:=i}:=by obtain⟨i,a⟩:=oA.1 h;rw[Es]at a;cases b:m[i]? with|none=>{rw[b]at a;cases a}|some p=>rw[b]at a;refine⟨i,p.1,p.2,b,?_⟩;simpa using a.symm
theorem G7{e:MapEntry}(h:e∈B8 0 m):e.born<m.length:=by obtain⟨i,k,v,a,rfl⟩:=Oj h;rcases iE i m.length with h|h;{exact h};simp[ic h]at a
theorem LP:∀(j:Nat) (m:List (List Int×Value)) (i:Nat) (k:List Int) (v:Value),m[i]?=some (k,v)->(B8 j m).find? (fun e=>e.born==j+i)=some {key:=BH k,val:=v,born:=j+i}
|_,[],_,_,_,h=>by simp at h
|j,(k',v')::r,0,k,v,h=>by simp only[kj,gL,kW]at h;obtain⟨rfl,rfl⟩:=h;simp[B8]
|j,(k',v')::r,i+1,k,v,h=>by have a:=LP (j+1) r i k v (by simpa using h);rw[show j+(i+1)=j+1+i by omega];unfold B8;rw[List.find?_cons_of_neg (by simp;omega)];exact a
section
variable {P:Program} {mt kt vt:TypeId} {w:World}
theorem Sv(a:P.underlying mt=some (.map kt vt)){r:Nat}{m:List (List Int×Value)}(h:Br w r m):(Instr.range mt (.map (some r))).run P w=.ok (.pointer (some ⟨w.heap.size,0,none⟩)) (w.alloc (.mapIter (some r) m.length #[] m.length)):=by have b:=h.obj;simp[Instr.range,iU a,getObj,Sem.run,b,newObj]
theorem T4(h:Br w r m)(hi:AL w it r m.length seen):((∀i,i<m.length->i∈seen)/\(Instr.next (.pointer (some ⟨it,0,none⟩)) false t).run P w=.ok (.tuple #[.bool false]) w) \/ ∃i k v I,i<m.length/\i∉seen/\m[i]?=some (k,v)/\(Instr.next (.pointer (some ⟨it,0,none⟩)) false t).run P w=.ok (.tuple #[.bool true,BH k,v]) I /\ AL I it r m.length (seen++[i])/\w.grownBy I (some it):=by (have K:=h.obj;have s:w.heap[it]?=some (.mapIter (some r) m.length seen.toArray m.length):=hi;have f:(!seen.toArray.isEmpty && !(B8 0 m).toArray.isEmpty && (B8 0 m).toArray.all (fun e=>decide (e.born >= m.length)))=false:=by cases m with|nil=>{simp[B8]}|cons p q=>obtain⟨k,v⟩:=p;simp[B8]);(have l:((B8 0 m).toArray.filter (fun e=>!seen.toArray.contains e.born)).filter (fun e=>decide (e.born<m.length))=(B8 0 m).toArray.filter (fun e=>!seen.toArray.contains e.born):=by apply py;simp only[Array.toList_filter];rw[List.filter_eq_self];intro e he;have:=(lG.1 he).1;simpa using G7 (by simpa using this));(have g:((B8 0 m).toArray.filter (fun e=>!seen.toArray.contains e.born)).filter (fun e=>decide (e.born >= m.length))=#[]:=by apply py;simp only[Array.toList_filter];rw[List.filter_eq_nil_iff];intro e he;have:=(lG.1 he).1;have:=G7 (by simpa using this);simp;omega);generalize A:(B8 0 m).toArray.filter (fun e=>!seen.toArray.contains e.born)=left at*;(have x:∀e∈left,∃i k v,m[i]?=some (k,v)/\i∉seen/\e={key:=BH k,val:=v,born:=i}:=by intro e he;rw[<-A]at he;obtain⟨h1,h2⟩:=Array.mem_filter.1 he;obtain⟨i,k,v,B,rfl⟩:=Oj (by simpa using h1);exact⟨i,k,v,B,by simpa using h2,rfl⟩);by_cases a:left=#[];{left;refine⟨?_,?_⟩;{intro i E;by_cases C:i∈seen;{exact C};(exfalso;have:({key:=BH m[i].1,val:=m[i].2,born:=i}:MapEntry)∈left:=by rw[<-A,Array.mem_filter];refine⟨?_,by simpa using C⟩;rw[List.mem_toArray,oA];exact⟨i,by rw[Es,gD E];simp⟩);rw[a]at this;simp at this};simp only[Instr.next,ip,getObj,Sem.run,s,K,gR];simp only[f,A,l,g];simp[a,choose,Sem.run,Question.forced]};(right;have n:0<left.size:=by rcases gT left.size with h0|h0;{exact absurd (Array.eq_empty_of_size_eq_zero h0) a};exact h0);(obtain⟨c,w1,J,D,d⟩:∃c w1,c<left.size/\(choose (.mapNext left.size)).run P w=.ok c w1/\(w1=w\/w1=w.drew):=by by_cases h1:left.size<=1;{exact⟨0,w,n,by simp[choose,Sem.run,Question.forced,h1],.inl rfl⟩};refine⟨w.tape w.drawn (.mapNext left.size)%left.size,w.drew,iD _ n,?_,.inr rfl⟩;simp[choose,Sem.run,Question.forced,h1,Question.cut]);(obtain⟨i,k,v,B,C,he⟩:=x left[c] (Array.getElem_mem J);have F:i<m.length:=by rcases iE i m.length with h|h;{exact h};simp[ic h]at B);(have b:w1.heap=w.heap:=by rcases d with rfl|rfl<;>rfl);(have z:w1.heap[it]?=some (.mapIter (some r) m.length seen.toArray m.length):=by rw[b];exact s);refine⟨i,k,v,{w1 with heap:=w1.heap.setIfInBounds it (.mapIter (some r) m.length (seen.toArray.push i) m.length)},F,C,B,?_,?_,?_⟩;{(simp only[Instr.next,ip,getObj,Sem.run,s,K,gR];simp only[f,A,l,g];have o:((if left.isEmpty=true then #[none]else #[])++(left++#[]).map some)=left.map some:=by simp[a]);(simp only[o];have H:(left.map some).size=left.size:=by simp);(simp only[H,l9,mX,ip,gR,D];have y:(left.map some)[c]?=some (some {key:=BH k,val:=v,born:=i}):=by rw[Array.getElem?_map,kX J,he];rfl);simp only[y];simp[setObj,Sem.run,z]};{(show({w1 with heap:=w1.heap.setIfInBounds it _}:World).heap[it]?=_;have:it<w1.heap.size:=by rw[b];exact hi.lt);simp only;rw[mr this];simp};(refine⟨by rcases d with rfl|rfl<;>rfl,by rcases d with rfl|rfl<;>rfl,by rcases d with rfl|rfl<;>rfl,by simp[b],fun j _ G=>?_⟩;have:it≠j:=by rintro rfl;exact G rfl);simp only;rw[lV this,b]
theorem Sw{i:Nat}(h:Br w r m)(hi:AL w it r m.length (seen++[i]))(c:m[i]?=some (k,v)):(Instr.entry (.pointer (some ⟨it,0,none⟩))).run P w=.ok (.tuple #[BH k,v]) w:=by have d:=h.obj;have a:w.heap[it]?=some (.mapIter (some r) m.length (seen++[i]).toArray m.length):=hi;have b:=LP 0 m i k v c;rw[iy]at b;simp[Instr.entry,getObj,Sem.run,a,d,b]
theorem G8(c:o.guard=none)(e:o.op=.makeMap mt none)(d:∀a,Br a w.heap.size []->Ext w a->w.heap.size<a.heap.size->wpList P ops Q rest (f.put o.dst (.map (some w.heap.size))) a):wpList P ops Q (o::rest) f w:=by (refine jh c fun K b=>?_;unfold Oper.wp execOp;have g:(Instr.makeMap mt none).run P w=.ok (.map (some w.heap.size)) (w.alloc (.map #[] 0)):=by simp[Instr.makeMap,newObj,Sem.run]);simp only[e,ou,ip,g,gR,iM,Oper.upon];exact b _ _ (d _ ⟨mF w _,by simp,by simp⟩ ((Ext.refl w).alloc _) (by simp))
theorem LQ(b:o.guard=none)(g:o.op=.lookup mt x y ok)(e:P.underlying mt=some (.map kt vt))(d:G5 P kt et){z:Value}(l:∀w,(zeroValue vt).run P w=.ok z w){r:Nat}{m:List (List Int×Value)}{k:List Int}(i:f.eval x=.map (some r))(j:f.eval y=BH k)(h:Br w r m)(h6:k.length=6)(c:wpList P ops Q rest (f.put o.dst (if ok then .tuple #[Fs z m k,.bool (Xz m k)]else Fs z m k)) w):wpList P ops Q (o::rest) f w:=by refine jh b fun K a=>?_;unfold Oper.wp execOp;simp only[g,i,j,ip,J1 e d (l w) h h6 ok,gR,iM,Oper.upon];exact a _ _ c
theorem PW(e:o.guard=none)(c:o.op=.mapUpdate mt x y u\/o.op=.insert mt x y u)(j:P.underlying mt=some (.map kt vt))(i:G5 P kt et){r:Nat}{m:List (List Int×Value)}{k:List Int}{v:Value}(l:f.eval x=.map (some r))(n:f.eval y=BH k)(hu:f.eval u=v)(h:Br w r m)(h6:k.length=6)(g:∀b,Br b r (Oi m k v)->w.grownBy b (some r)->wpList P ops Q rest (f.put o.dst undef) b):wpList P ops Q (o::rest) f w:=by refine jh e fun K d=>?_;obtain⟨b,a,h2,h3⟩:=VW j i h h6 v;unfold Oper.wp execOp;rcases c with c|c;all_goals simp only[c,l,n,hu,ip,a,gR,iM,Oper.upon];exact d _ _ (g b h2 h3)
theorem J2(c:o.guard=none)(g:o.op=.range mt x)(e:P.underlying mt=some (.map kt vt)){r:Nat}{m:List (List Int×Value)}(i:f.eval x=.map (some r))(h:Br w r m)(d:∀a,AL a w.heap.size r m.length []->Ext w a->w.heap.size<a.heap.size->wpList P ops Q rest (f.put o.dst (.pointer (some ⟨w.heap.size,0,none⟩))) a):wpList P ops Q (o::rest) f w:=by refine jh c fun K b=>?_;unfold Oper.wp execOp;simp only[g,i,ip,Sv e h,gR,iM,Oper.upon];exact b _ _ (d _ (mF w _) ((Ext.refl w).alloc _) (by simp))
theorem F8(e:o.guard=none)(j:o.op=.next x false){r d:Nat}{m:List (List Int×Value)}{a:List Nat}(l:f.eval x=.pointer (some ⟨d,0,none⟩))(h:Br w r m)(hi:AL w d r m.length a)(h1:(∀i,i<m.length->i∈a)->wpList P ops Q rest (f.put o.dst (.tuple #[.bool false])) w)(h2:∀i k v c,i<m.length->i∉a->m[i]?=some (k,v)->AL c d r m.length (a++[i])->w.grownBy c (some d)->wpList P ops Q rest (f.put o.dst (.tuple #[.bool true,BH k,v])) c):wpList P ops Q (o::rest) f w:=by refine jh e fun K b=>?_;unfold Oper.wp execOp;rcases T4 (P:=P) (t:=o.type) h hi with⟨z,g⟩|⟨i,k,v,c,n,p,q,g,s,y⟩;{simp only[j,l,ip,g,gR,iM,Oper.upon];exact b _ _ (h1 z)};simp only[j,l,ip,g,gR,iM,Oper.upon];exact b _ _ (h2 i k v c n p q s y)
theorem J3(c:o.guard=none)(j:o.op=.entry x){r d i:Nat}{m:List (List Int×Value)}{a:List Nat}{k:List Int}{v:Value}(l:f.eval x=.pointer (some ⟨d,0,none⟩))(h:Br w r m)(hi:AL w d r m.length (a++[i]))(g:m[i]?=some (k,v))(e:wpList P ops Q rest (f.put o.dst (.tuple #[BH k,v])) w):wpList P ops Q (o::rest) f w:=by refine jh c fun K b=>?_;unfold Oper.wp execOp;simp only[j,l,ip,Sw h hi g,gR,iM,Oper.upon];exact b _ _ e
end
end Go.Proofs.YtidknnkgdniopaaGreatDoor
namespace Go.Proofs.YtidknnkgdniopaaGreatDoor.Pl
variable {x y:Int} {a b c e:List Int} {d n:Nat} {q:Rat}
abbrev Tm:=List Int×Rat
def coef:List Tm->List Int->Rat
| [],_=>0
| t::r,e=>(if t.1=e then t.2 else 0)+coef r e
def lin(F:List Int->Rat):List Tm->Rat
| []=>0
| t::r=>t.2*F t.1+lin F r
theorem coef_app(a b:List Tm)(e:List Int):coef (a++b) e=coef a e+coef b e:=by induction a with|nil=>{simp[coef];grind}|cons t r ih=>simp only[jW,coef,ih];grind
theorem Q9(F:List Int->Rat)(a b:List Tm):lin F (a++b)=lin F a+lin F b:=by induction a with|nil=>{simp[lin];grind}|cons t r ih=>simp only[jW,lin,ih];grind
theorem coef_perm{a b:List Tm}(h:a.Perm b)(e:List Int):coef a e=coef b e:=by induction h with|nil=>{rfl}|cons t _ ih=>{simp only[coef,ih]}|swap s t l=>{simp only[coef];grind}|trans _ _ h1 h2=>rw[h1,h2]
theorem Ok(l:List Tm)(m e:List Int):coef (l.filter (fun t=>decide (t.1≠m))) e=if e=m then 0 else coef l e:=by induction l with|nil=>{simp[coef]}|cons t r ih=>by_cases h:t.1=m;{rw[List.filter_cons_of_neg (by simp[h]),ih];by_cases he:e=m;{simp[he]};simp only[gQ he,coef];rw[gQ (by rw[h];exact fun x=>he x.symm)];grind};rw[List.filter_cons_of_pos (by simp[h])];simp only[coef,ih];by_cases he:e=m;{subst he;simp[h];grind};simp[he]
theorem PX(F:List Int->Rat)(l:List Tm)(m:List Int):lin F l=coef l m*F m+lin F (l.filter (fun t=>decide (t.1≠m))):=by induction l with|nil=>{simp[coef,lin];grind}|cons t r ih=>by_cases h:t.1=m;{rw[List.filter_cons_of_neg (by simp[h])];simp only[coef,lin,h];rw[ih];grind};rw[List.filter_cons_of_pos (by simp[h])];simp only[coef,lin,gQ h];rw[ih];grind
theorem Ol(F:List Int->Rat):∀(n:Nat) (l:List Tm),l.length<=n->(∀e,coef l e=0)->lin F l=0
|0,l,h,_=>by have:l=[]:=gN (by omega);subst this;rfl
|n+1,[],_,_=>rfl
|n+1,t::r,h,hz=>by (rw[PX F (t::r) t.1,hz t.1];have h1:((t::r).filter (fun s=>decide (s.1≠t.1))).length<=n:=by rw[List.filter_cons_of_neg (by simp)];have:=List.length_filter_le (fun s:Tm=>decide (s.1≠t.1)) r;simp at h;omega);rw[Ol F n _ h1 (fun e=>by rw[Ok,hz e];split<;>rfl)];grind
def scl(c:Rat)(l:List Tm):List Tm:=l.map (fun t=>(t.1,c*t.2))
theorem coef_scl(c:Rat)(l:List Tm)(e:List Int):coef (scl c l) e=c*coef l e:=by induction l with|nil=>{simp[scl,coef]}|cons t r ih=>have:scl c (t::r)=(t.1,c*t.2)::scl c r:=rfl;rw[this];simp only[coef,ih];by_cases h:t.1=e<;>simp[h]<;>grind
theorem VZ(F:List Int->Rat)(c:Rat)(l:List Tm):lin F (scl c l)=c*lin F l:=by induction l with|nil=>{simp[scl,lin]}|cons t r ih=>have:scl c (t::r)=(t.1,c*t.2)::scl c r:=rfl;rw[this];simp only[lin,ih];grind
theorem Ra{F:List Int->Rat}{a b:List Tm}(h:∀e,coef a e=coef b e):lin F a=lin F b:=by have h1:=Ol F _ (a++scl (-1) b) (lrf _) (fun e=>by rw[coef_app,coef_scl,h e];grind);rw[Q9,VZ]at h1;grind
def cmpI(x y:Int):Int:=if x<y then -1 else if y<x then 1 else 0
theorem cmpI_zero:cmpI x y=0<->x=y:=by unfold cmpI;split<;>(try split)<;>omega
theorem cmpI_pos:0<cmpI x y<->y<x:=by unfold cmpI;split<;>(try split)<;>omega
theorem Om:cmpI y x=-cmpI x y:=by unfold cmpI;split<;>(try split)<;>omega
def ordR:List Int->List Int->Int
| x::r,y::s=>if x=y then ordR r s else cmpI y x
| _,_=>0
def ordE(a b:List Int):Int:=if a.sum=b.sum then ordR a.reverse b.reverse else cmpI a.sum b.sum
theorem LR:∀a:List Int,ordR a a=0
|[]=>rfl
|x::r=>by simp[ordR,LR r]
theorem Rb:∀{a b:List Int},a.length=b.length->ordR a b=0->a=b
|[],[],_,_=>rfl
|x::r,y::s,hl,h=>by by_cases e:x=y;{simp only[ordR,gX e]at h;rw[e,Rb (by simpa using hl) h]};simp only[ordR,gQ e]at h;exact absurd (cmpI_zero.1 h).symm e
theorem LS:∀(a b:List Int),ordR b a=-ordR a b
|[],[]=>by simp[ordR]
|[],_::_=>by simp[ordR]
|_::_,[]=>by simp[ordR]
|x::r,y::s=>by by_cases e:x=y;{simp only[ordR,gX e,gX e.symm];exact LS r s};simp only[ordR,gQ e,gQ (fun h:y=x=>e h.symm)];exact Om
theorem J4:∀{a b c:List Int},0<ordR a b->0<ordR b c->0<ordR a c
|x::r,y::s,z::t,h1,h2=>by by_cases e1:x=y;{subst e1;by_cases e2:x=z;{subst e2;simp only[ordR,lf]at h1 h2|-;exact J4 h1 h2};simp only[ordR,gQ e2]at h2|-;exact h2};simp only[ordR,gQ e1]at h1;by_cases e2:y=z;{subst e2;simp only[ordR,gQ e1];exact h1};simp only[ordR,gQ e2]at h2;have g1:=cmpI_pos.1 h1;have d:=cmpI_pos.1 h2;simp only[ordR,gQ (show ¬x=z by omega)];exact cmpI_pos.2 (by omega)
|[],_,_,h1,_=>by simp[ordR]at h1
|_::_,[],_,h1,_=>by simp[ordR]at h1
|_::_,_::_,[],_,h2=>by simp[ordR]at h2
theorem ordE_self(a:List Int):ordE a a=0:=by simp[ordE,LR]
theorem ordE_eq(c:a.length=b.length)(h:ordE a b=0):a=b:=by unfold ordE at h;split at h;{exact List.reverse_inj.1 (Rb (by simpa using c) h)};rename_i d;exact absurd (cmpI_zero.1 h) d
theorem ordE_anti(a b:List Int):ordE b a=-ordE a b:=by unfold ordE;by_cases h:a.sum=b.sum;{rw[gX h,gX h.symm];exact LS _ _};rw[gQ h,gQ (fun x=>h x.symm)];exact Om
theorem ordE_trans(h1:0<ordE a b)(h2:0<ordE b c):0<ordE a c:=by unfold ordE at*;by_cases e:a.sum=b.sum;{rw[gX e]at h1;by_cases d:b.sum=c.sum;{rw[gX d]at h2;rw[gX (e.trans d)];exact J4 h1 h2};rw[gQ d]at h2;rw[gQ (fun h=>d (e.symm.trans h)),e];exact h2};rw[gQ e]at h1;have f:=cmpI_pos.1 h1;by_cases d:b.sum=c.sum;{rw[gQ (fun h=>e (h.trans d.symm)),<-d];exact h1};rw[gQ d]at h2;have g:=cmpI_pos.1 h2;rw[gQ (by omega)];exact cmpI_pos.2 (by omega)
structure Canon(n:Nat)(l:List Tm):Prop where
 len:∀t∈l,t.1.length=n
 nz:∀t∈l,t.2≠0
 desc:l.Pairwise (fun s t=>0<ordE s.1 t.1)
theorem Canon.nil(n:Nat):Canon n []:=⟨by simp,by simp,List.Pairwise.nil⟩
theorem Canon.tail{t:Tm}{r:List Tm}(h:Canon n (t::r)):Canon n r := ⟨fun s a=>h.len s (by simp[a]),fun s a=>h.nz s (by simp[a]),(jq.1 h.desc).2⟩
theorem coef_absent{l:List Tm}(h:∀t∈l,t.1≠e):coef l e=0:=by induction l with|nil=>{rfl}|cons t r ih=>simp only[coef,gQ (h t (by simp)),ih (fun s a=>h s (by simp[a]))];grind
theorem coef_present{l:List Tm}(h:coef l e≠0):∃t∈l,t.1=e:=by refine ie fun a=>h (coef_absent fun t b he=>a ⟨t,b,he⟩)
theorem Canon.head{t:Tm}{r:List Tm}(h:Canon n (t::r)):coef (t::r) t.1=t.2:=by (have:coef r t.1=0:=coef_absent fun s a he=>by have:=(jq.1 h.desc).1 s a;rw[he,ordE_self]at this;omega);simp only[coef,lf,this];grind
theorem Canon.above{t:Tm}{r:List Tm}(h:Canon n (t::r)){e:List Int}(he:coef (t::r) e≠0):e=t.1\/0<ordE t.1 e:=by obtain⟨s,a,rfl⟩:=coef_present he;rcases iP.1 a with rfl|a;{exact Or.inl rfl};exact Or.inr ((jq.1 h.desc).1 s a)
theorem canon_ext{n:Nat}:∀{a b:List Tm},Canon n a->Canon n b->(∀e,coef a e=coef b e)->a=b
|[],[],_,_,_=>rfl
|[],t::r,_,hb,e=>by have h1:=hb.head;rw[<-e]at h1;exact absurd h1.symm (hb.nz t (by simp))
|t::r,[],ha,_,e=>by have h1:=ha.head;rw[e]at h1;exact absurd h1.symm (ha.nz t (by simp))
|s::a,t::b,ha,hb,e=>by (have h1:=ha.head;have h2:=hb.head;have i:coef (t::b) s.1≠0:=by rw[<-e,h1];exact ha.nz s (by simp));(have j:coef (s::a) t.1≠0:=by rw[e,h2];exact hb.nz t (by simp));(have f:s.1=t.1:=by rcases hb.above i with h|h;{exact h};rcases ha.above j with d|d;{exact d.symm};have:=ordE_anti s.1 t.1;omega);(have g:s.2=t.2:=by rw[<-h1,<-h2,e,f]);have c:s=t:=Prod.ext f g;subst c;rw[canon_ext ha.tail hb.tail (fun x=>by have:=e x;simp only[coef]at this;grind)]
theorem rat_mul_parts(a b:Rat):(a*b).num=a.num.tdiv (a.num.natAbs.gcd b.den:Nat)*b.num.tdiv (b.num.natAbs.gcd a.den:Nat)/\(a*b).den=a.den/(b.num.natAbs.gcd a.den)*(b.den/(a.num.natAbs.gcd b.den)):=by have h:a*b=Rat.mul a b:=rfl;rw[h,Rat.mul];simp only[Int.divExact_eq_tdiv,Nat.divExact_eq_div,and_self]
theorem rat_mul_whole(a b:Rat)(c:a.den=1)(d:b.den=1):(a*b).num=a.num*b.num/\(a*b).den=1:=by have:=rat_mul_parts a b;rw[c,d]at this;simpa using this
theorem rat_add_parts(a b:Rat):(a+b).num=(a.num*((b.den/a.den.gcd b.den:Nat):Int)+b.num*((a.den/a.den.gcd b.den:Nat):Int)).tdiv (((a.num*((b.den/a.den.gcd b.den:Nat):Int)+b.num*((a.den/a.den.gcd b.den:Nat):Int)).natAbs.gcd (a.den.gcd b.den):Nat):Int) /\ (a+b).den=(a.den/a.den.gcd b.den)*(b.den/((a.num*((b.den/a.den.gcd b.den:Nat):Int)+b.num*((a.den/a.den.gcd b.den:Nat):Int)).natAbs.gcd (a.den.gcd b.den))):=by have h:a+b=Rat.add a b:=rfl;have c:∀N:Nat,(a.den/a.den.gcd b.den)*(b.den/(N.gcd (a.den.gcd b.den)))=(a.den/a.den.gcd b.den)*b.den/(N.gcd (a.den.gcd b.den)):=fun N=>(nT _ (li (kF _ _) (kF _ _))).symm;rw[c,h,Rat.add];simp only;split;{rename_i d;simp[d]};rw[Rat.maybeNormalize_eq];exact⟨Int.divExact_eq_tdiv (Int.ofNat_dvd_left.2 (ld _ _)),rfl⟩
theorem rat_eq_mk{n:Int}(a:d≠0)(b:n.natAbs.Coprime d)(h:q=mkRat n d):q.num=n/\q.den=d:=by (rw[h,Rat.num_mkRat,Rat.den_mkRat,gQ a,gQ a];have h1:d.gcd n.natAbs=1:=by rw[lu];exact b);simp[h1]
theorem rat_num_den_zero:q.num=0<->q=0:=Rat.num_eq_zero
theorem rat_frac{n:Int}(a:d≠0):(mkRat n d).num=n.tdiv (n.natAbs.gcd d:Nat)/\(mkRat n d).den=d/(n.natAbs.gcd d):=by (rw[Rat.num_mkRat,Rat.den_mkRat,gQ a,gQ a,lu];refine⟨?_,rfl⟩;have h:((n.natAbs.gcd d:Nat):Int)∣n:=by have:=ld n.natAbs d;exact Int.ofNat_dvd_left.2 this);exact(Int.tdiv_eq_ediv_of_dvd h).symm
def Il(m:List Int):Rat->List Tm->Rat
| c,[]=>c
| c,t::r=>if m=t.1 then Il m (c+t.2) r else c
def DC(m:List Int):List Tm->List Tm
| []=>[]
| t::r=>if m=t.1 then DC m r else t::r
theorem Dj(m:List Int):∀l:List Tm,(DC m l).length<=l.length
|[]=>lrf _
|t::r=>by unfold DC;split;{have:=Dj m r;simp;omega};exact lrf _
def grp(l:List Tm):List Tm :=
 match l with
| []=>[]
| t::r=>(if Il t.1 t.2 r=0 then []else [(t.1,Il t.1 t.2 r)])++grp (DC t.1 r)
termination_by l.length
decreasing_by
 have:=Dj t.1 r;simp;omega
theorem EX:grp []=[]:=by rw[grp]
theorem G9(t:Tm)(r:List Tm):grp (t::r)=(if Il t.1 t.2 r=0 then []else [(t.1,Il t.1 t.2 r)])++grp (DC t.1 r):=by rw[grp]
theorem On(m:List Int):∀(c:Rat) (l:List Tm) (e:List Int),(if m=e then c else 0)+coef l e=(if m=e then Il m c l else 0)+coef (DC m l) e
|c,[],e=>rfl
|c,t::r,e=>by by_cases h:m=t.1;{simp only[coef,Il,DC,gX h];rw[<-On m (c+t.2) r e,<-h];by_cases he:m=e<;>simp[he]<;>grind};simp only[Il,DC,gQ h]
theorem Oo:∀(n:Nat) (l:List Tm),l.length<=n->∀e,coef (grp l) e=coef l e
|0,l,h,e=>by have:l=[]:=gN (by omega);subst this;rw[EX]
|n+1,[],_,e=>by rw[EX]
|n+1,t::r,h,e=>by have h1:=Dj t.1 r;rw[G9,coef_app,Oo n (DC t.1 r) (by simp at h;omega) e];have h2:=On t.1 t.2 r e;simp only[coef];rw[h2];congr 1;split;{rename_i h0;rw[h0];simp[coef]};simp only[coef];grind
theorem J5(m:List Int):∀(l:List Tm) (t:Tm),t∈DC m l->t∈l
|[],t,h=>h
|s::r,t,h=>by unfold DC at h;split at h;{exact mE _ (J5 m r t h)};exact h
theorem Rc:∀(n:Nat) (l:List Tm),l.length<=n->∀t∈grp l,∃s∈l,s.1=t.1
|0,l,h,t,ht=>by have:l=[]:=gN (by omega);subst this;rw[EX]at ht;exact absurd ht (by simp)
|n+1,[],_,t,ht=>by rw[EX]at ht;exact absurd ht (by simp)
|n+1,s::r,h,t,ht=>by have h1:=Dj s.1 r;rw[G9]at ht;rcases iA.1 ht with ht|ht;{split at ht;{exact absurd ht (by simp)};simp only[gK]at ht;subst ht;exact⟨s,by simp,rfl⟩};obtain⟨b,a,e⟩:=Rc n (DC s.1 r) (by simp at h;omega) t ht;exact⟨b,mE _ (J5 _ _ _ a),e⟩
def desc(l:List Tm):Prop:=l.Pairwise (fun s t=>0<=ordE s.1 t.1)
theorem LT(m:List Int):∀l:List Tm,desc l->desc (DC m l)
|[],h=>h
|t::r,h=>by unfold DC;split;{exact LT m r (jq.1 h).2};exact h
theorem J6{n:Nat}(m:List Int)(b:m.length=n):∀l:List Tm,(∀t∈l,t.1.length=n)->(∀t∈l,0<=ordE m t.1)->desc l->∀t∈DC m l,0<ordE m t.1
|[],_,_,_,t,ht=>absurd ht (by simp[DC])
|s::r,hl,h,hd,t,ht=>by unfold DC at ht;by_cases e:m=s.1;{rw[gX e]at ht;exact J6 m b r (fun x a=>hl x (by simp[a])) (fun x a=>h x (by simp[a])) (jq.1 hd).2 t ht};(rw[gQ e]at ht;have h0:0<ordE m s.1:=by have h1:=h s (by simp);have h2:ordE m s.1≠0:=fun h0=>e (ordE_eq (by rw[b,hl s (by simp)]) h0);omega);rcases iP.1 ht with rfl|ht;{exact h0};have h3:=(jq.1 hd).1 t ht;by_cases h4:ordE s.1 t.1=0;{rw[<-ordE_eq (by rw[hl s (by simp),hl t (by simp[ht])]) h4];exact h0};exact ordE_trans h0 (by omega)
theorem LU{n:Nat}:∀(k:Nat) (l:List Tm),l.length<=k->(∀t∈l,t.1.length=n)->desc l->Canon n (grp l)
|0,l,h,_,_=>by have:l=[]:=gN (by omega);subst this;rw[EX];exact Canon.nil n
|k+1,[],_,_,_=>by rw[EX];exact Canon.nil n
|k+1,t::r,h,hl,hd=>by have h1:=Dj t.1 r;have b:=jq.1 hd;have d:∀s∈DC t.1 r,s.1.length=n:=fun s a=>hl s (mE _ (J5 _ _ _ a));have c:=LU k (DC t.1 r) (by simp at h;omega) d (LT t.1 r b.2);rw[G9];split;{exact c};rename_i g;refine⟨?_,?_,?_⟩;{intro s a;rcases iP.1 a with rfl|a;{exact hl t (by simp)};exact c.len s a};{intro s a;rcases iP.1 a with rfl|a;{exact g};exact c.nz s a};refine jq.2 ⟨fun s a=>?_,c.desc⟩;obtain⟨j,f,e⟩:=Rc _ _ (lrf _) s a;rw[<-e];exact J6 t.1 (hl t (by simp)) r (fun x i=>hl x (by simp[i])) b.1 b.2 j f
theorem canon_of_sorted{l:List Tm}(c:∀t∈l,t.1.length=n)(f:∀t∈l,t.2≠0)(g:desc l)(i:(l.map (·.1)).Nodup):Canon n l:=by refine⟨c,f,?_⟩;induction l with|nil=>{exact List.Pairwise.nil}|cons t r ih=>have a:=jq.1 g;have b:=kK.1 i;refine jq.2 ⟨fun s d=>?_,ih (fun x e=>c x (by simp[e])) (fun x e=>f x (by simp[e])) a.2 b.2⟩;have h1:=a.1 s d;have h2:ordE t.1 s.1≠0:=fun h0=>b.1 (by show t.1∈_;rw[ordE_eq (by rw[c t (by simp),c s (by simp[d])]) h0];exact jd d);omega
end Go.Proofs.YtidknnkgdniopaaGreatDoor.Pl
namespace Go.Proofs.YtidknnkgdniopaaGreatDoor.W
variable {A Bb P a f u1 u2 v1 v2 α β:Int} {l xs ys:List Nat} {B D U V W b c c' d2 g i k lo lo' q r s u w3 x y0 y1:Nat}
def val(B:Nat):List Nat->Nat
| []=>0
| x::r=>x+B*val B r
def bnd(B:Nat)(xs:List Nat):Prop:=∀x∈xs,x<B
def nrm(xs:List Nat):Prop:=∀h:xs≠[],xs.getLast h≠0
theorem val_app(B:Nat):∀a b:List Nat,val B (a++b)=val B a+B^a.length*val B b
|[],b=>by simp[val]
|x::a,b=>by simp only[jW,val,val_app B a b,iJ,im];grind
theorem val_snoc(B:Nat)(xs:List Nat)(x:Nat):val B (xs++[x])=val B xs+B^xs.length*x:=by rw[val_app];simp[val]
theorem val_zeros(B:Nat):∀n,val B (List.replicate n 0)=0
|0=>rfl
|n+1=>by simp[mK,val,val_zeros B n]
theorem val_lt{B:Nat}:∀{xs:List Nat},bnd B xs->val B xs<B^xs.length
|[],_=>by simp[val]
|x::xs,h=>by have h1:x<B:=h x (by simp);have h2:=val_lt (xs:=xs) (fun y a=>h y (by simp[a]));simp only[val,iJ,im];have:B*(val B xs+1)<=B*B^xs.length:=ij _ h2;grind
theorem val_set{B:Nat}:∀{xs:List Nat} {i:Nat} {v:Nat},i<xs.length->val B (xs.set i v)+B^i*xs.getD i 0=val B xs+B^i*v
|[],_,_,h=>by simp at h
|x::xs,0,v,_=>by simp[val];omega
|x::xs,i+1,v,h=>by have:=val_set (B:=B) (xs:=xs) (i:=i) (v:=v) (by simpa using h);simp only[lO,val,kU,im];grind
theorem bnd_set(h:bnd B xs){i v:Nat}(a:v<B):bnd B (xs.set i v):=by intro x b;rcases jk b with h1|h1;{exact h x h1};rw[h1];exact a
theorem bnd_at(h:bnd B xs){i:Nat}(hi:i<xs.length):xs.getD i 0<B:=by rw[gqq,gD hi];exact h _ (il hi)
theorem bnd_app(h:bnd B xs)(k:bnd B ys):bnd B (xs++ys):=by intro x a;rcases iA.1 a with h1|h1;{exact h x h1};exact k x h1
theorem bnd_take(h:bnd B xs)(n:Nat):bnd B (xs.take n):=fun x a=>h x (k8 a)
theorem bnd_drop(h:bnd B xs)(n:Nat):bnd B (xs.drop n):=fun x a=>h x (mD a)
theorem val_take_succ(hi:i<xs.length):val B (xs.take (i+1))=val B (xs.take i)+B^i*xs.getD i 0:=by rw[gM hi,val_snoc,iq,jS (by omega),gqq,gD hi];rfl
theorem val_split(xs:List Nat)(n:Nat)(h:n<=xs.length):val B xs=val B (xs.take n)+B^n*val B (xs.drop n):=by (conv=>lhs;rw[<-ki n xs]);rw[val_app,iq,jS h]
def trimTo(xs:List Nat):Nat->List Nat
| 0=>[]
| n+1=>if xs.getD n 0=0 then trimTo xs n else xs.take (n+1)
def trim(xs:List Nat):List Nat:=trimTo xs xs.length
theorem J7{B:Nat}{xs:List Nat}:∀{n:Nat},n<=xs.length->val B (trimTo xs n)=val B (xs.take n)
|0,_=>by simp[trimTo,val]
|n+1,h=>by unfold trimTo;split;{rename_i h0;rw[J7 (by omega),val_take_succ (by omega),h0];simp};rfl
theorem trim_val(xs:List Nat):val B (trim xs)=val B xs:=by rw[trim,J7 (lrf _),od]
theorem J8{xs:List Nat}:∀{n:Nat},n<=xs.length->nrm (trimTo xs n)
|0,_=>by intro h;simp[trimTo]at h
|n+1,h=>by unfold trimTo;split;{exact J8 (by omega)};(rename_i h0;intro hne;rw[kL];have hl:(xs.take (n+1)).length=n+1:=by rw[iq];omega);simp only[hl,kJ,List.getElem_take];simpa[gD (show n<xs.length by omega)]using h0
theorem trim_nrm(xs:List Nat):nrm (trim xs):=J8 (lrf _)
theorem trimTo_prefix{xs:List Nat}:∀{n:Nat},n<=xs.length->∃k,k<=n/\trimTo xs n=xs.take k
|0,_=>⟨0,lrf _,by simp[trimTo]⟩
|n+1,h=>by unfold trimTo;split;{obtain⟨k,h1,h2⟩:=trimTo_prefix (xs:=xs) (n:=n) (by omega);exact⟨k,by omega,h2⟩};exact⟨n+1,lrf _,rfl⟩
theorem bnd_trim(h:bnd B xs):bnd B (trim xs):=by obtain⟨k,_,e⟩:=trimTo_prefix (xs:=xs) (n:=xs.length) (lrf _);rw[trim,e];exact bnd_take h k
theorem nrm_pos(_hB:0<B){xs:List Nat}(h:nrm xs)(a:xs≠[]):B^(xs.length-1)<=val B xs:=by (have e:xs=xs.dropLast++[xs.getLast a]:=(oX a).symm;have b:=h a;have h1:val B xs=val B xs.dropLast+B^(xs.length-1)*xs.getLast a:=by (conv=>lhs;rw[e]);rw[val_snoc,List.length_dropLast]);have:B^(xs.length-1)*1<=B^(xs.length-1)*xs.getLast a:=ij _ (by omega);omega
theorem nrm_zero(b:0<B){xs:List Nat}(h:nrm xs):val B xs=0<->xs=[]:=by constructor;{intro h0;refine ie fun a=>?_;have:=nrm_pos b h a;have:=jl (n:=xs.length-1) b;omega};rintro rfl;rfl
theorem len_lt(d:1<B){xs ys:List Nat}(b:bnd B xs)(c:nrm ys)(h:xs.length<ys.length):val B xs<val B ys:=by (have h1:=val_lt b;have a:ys≠[]:=by intro e;rw[e]at h;simp at h);have h2:=nrm_pos (B:=B) (by omega) c a;have h3:B^xs.length<=B^(ys.length-1):=gW (by omega) (by omega);omega
theorem nrm_len(b:1<B){xs:List Nat}(h:nrm xs){n:Nat}(c:val B xs<B^n):xs.length<=n:=by rcases iE n xs.length with h1|h1;{(have a:xs≠[]:=by intro e;rw[e]at h1;simp at h1);have h2:=nrm_pos (B:=B) (by omega) h a;have h3:B^n<=B^(xs.length-1):=gW (by omega) (by omega);omega};exact h1
theorem nrm_nil:nrm []:=fun h=>absurd rfl h
theorem nrm_single(h:x≠0):nrm [x]:=fun _=>h
section
variable {B:Nat}
theorem add_step(f:k<l.length)(g:k<ys.length)(h:val B l+c*B^k=V+val B (ys.take k))(e:s+B*c'=l.getD k 0+ys.getD k 0+c):val B (l.set k s)+c'*B^(k+1)=V+val B (ys.take (k+1)):=by have h1:=val_set (B:=B) (xs:=l) (i:=k) (v:=s) f;have h2:=val_take_succ (B:=B) g;rw[h2,im];generalize l.getD k 0=x at*;generalize ys.getD k 0=y at*;generalize val B (l.set k s)=a at*;generalize val B l=b at*;generalize val B (ys.take k)=d at*;generalize B^k=p at*;grind
theorem add_step0(d:k<l.length)(h:val B l+c*B^k=V)(e:s+B*c'=l.getD k 0+c):val B (l.set k s)+c'*B^(k+1)=V:=by have h1:=val_set (B:=B) (xs:=l) (i:=k) (v:=s) d;rw[im];generalize l.getD k 0=x at*;generalize val B (l.set k s)=a at*;generalize val B l=b at*;generalize B^k=p at*;grind
theorem sub_step(f:k<l.length)(g:k<ys.length)(h:val B l+val B (ys.take k)=V+c*B^k)(e:s+ys.getD k 0+c=l.getD k 0+B*c'):val B (l.set k s)+val B (ys.take (k+1))=V+c'*B^(k+1):=by have h1:=val_set (B:=B) (xs:=l) (i:=k) (v:=s) f;have h2:=val_take_succ (B:=B) g;rw[h2,im];generalize l.getD k 0=x at*;generalize ys.getD k 0=y at*;generalize val B (l.set k s)=a at*;generalize val B l=b at*;generalize val B (ys.take k)=d at*;generalize B^k=p at*;grind
theorem sub_step0(d:k<l.length)(h:val B l=V+c*B^k)(e:s+c=l.getD k 0+B*c'):val B (l.set k s)=V+c'*B^(k+1):=by have h1:=val_set (B:=B) (xs:=l) (i:=k) (v:=s) d;rw[im];generalize l.getD k 0=x at*;generalize val B (l.set k s)=a at*;generalize val B l=b at*;generalize B^k=p at*;grind
theorem digit_hi{P:Nat}(c:W=w3*P+lo)(a:lo<P)(b:D=d2*P+lo')(d:q*D<=W):q*d2<=w3:=by rcases iE w3 (q*d2)with h|h;{(exfalso;have h1:(w3+1)*P<=q*d2*P:=gG _ h;have h2:q*(d2*P)<=q*D:=ij _ (by omega);have h3:q*(d2*P)=q*d2*P:=by rw[jC]);(have h4:(w3+1)*P=w3*P+P:=by rw[iV];omega);omega};exact h
theorem digit_lo{e P:Nat}(_hP:0<P)(d:W=w3*P+lo)(c:D=d2*P+lo')(b:lo' < P)(f:W<(q+1)*D)(he:e*d2<=w3)(a:q+1<=d2):e<=q+1:=by rcases iE (q+1) e with h|h;{(exfalso;have h1:(q+2)*d2<=e*d2:=gG _ h;have h2:(q+2)*d2*P<=w3*P:=gG _ (by omega);have h3:(q+1)*D<=(q+1)*(d2*P+P):=ij _ (by omega);have h4:(q+1)*(d2*P+P)=(q+1)*d2*P+(q+1)*P:=by grind);(have h5:(q+2)*d2*P=(q+1)*d2*P+d2*P:=by grind);have h6:(q+1)*P<=d2*P:=gG _ a;omega};exact h
end
structure Leh(a b A Bb P α β:Int)(f g u1 u2 v1 v2 s:Int):Prop where
 ha:a=A*P+α
 hb:b=Bb*P+β
 a0:0<=α
 a1:α<P
 b0:0<=β
 b1:β<P
 sg:s=1\/s=-1
 f0:0<=f
 g0:0<=g
 gf:g<=f
 ef:f=s*(u1*A-v1*Bb)
 eg:g=-(s*(u2*A-v2*Bb))
 sv:v2*f+v1*g=A
 su:u2*f+u1*g=Bb
 u1n:0<=u1
 u2n:0<=u2
 v1n:0<=v1
 v2p:1<=v2
 uv:u2<=v2
 vv:v1<=v2
theorem Leh.start{b:Int}(i:a=A*P+α)(j:b=Bb*P+β)(d:0<=α)(e:α<P)(b0:0<=β)(f:β<P)(g:0<=Bb)(c:Bb<=A):Leh a b A Bb P α β A Bb 1 0 0 1 1 := ⟨i,j,d,e,b0,f,Or.inl rfl,by omega,g,c,by simp,by simp,by simp,by simp,by omega,by omega,by omega,by omega,by omega,by omega⟩
theorem Leh.sec{b g s:Int}(h:Leh a b A Bb P α β f g u1 u2 v1 v2 s)(m:v2<=g):0 <= -(s*(u2*a-v2*b)):=by (obtain⟨k,l,d,q,i,r,n,_,_,_,_,j,_,_,_,c,_,p,o,_⟩:=h;have e:-(s*(u2*a-v2*b))=g*P-s*(u2*α-v2*β):=by rw[k,l,j];grind);(have v:u2*α<=v2*(P-1):=lW (jb o d) (jc (by omega) (by omega));have w:v2*β<=v2*(P-1):=jc (by omega) (by omega);have B:0<=u2*α:=lz c d;have C:0<=v2*β:=lz (by omega) i;have D:v2*P<=g*P:=jb m (by omega);have E:v2*(P-1)=v2*P-v2:=by grind);rw[e];generalize u2 * α=x at*;generalize v2 * β=y at*;generalize v2 * P=z at*;generalize g * P=t at*;rcases n with rfl|rfl<;>omega
theorem Leh.gap{b g s:Int}(h:Leh a b A Bb P α β f g u1 u2 v1 v2 s)(q:v1+v2<=f-g)(hu:u1<=v1\/(u1=1/\v1=0/\u2=0/\s=1)):-(s*(u2*a-v2*b))<s*(u1*a-v1*b):=by (obtain⟨k,l,c,C,j,D,r,_,_,_,o,p,_,_,d,e,i,B,w,Q⟩:=h;have m:-(s*(u2*a-v2*b))=g*P-s*(u2*α-v2*β):=by rw[k,l,p];grind);(have n:s*(u1*a-v1*b)=f*P+s*(u1*α-v1*β):=by rw[k,l,o];grind);(have E:(v1+v2)*P<=(f-g)*P:=jb q (by omega);have F:(v1+v2)*P=v1*P+v2*P:=by grind);(have G:(f-g)*P=f*P-g*P:=by grind);(have H:0<=u2*α:=lz e c;have I:0<=v2*β:=lz (by omega) j;have J:0<=u1*α:=lz d c;have K:0<=v1*β:=lz i j;have L:v2*β<=v2*(P-1):=jc (by omega) (by omega);have M:v1*β<=v1*(P-1):=jc (by omega) (by omega);have N:u2*α<=v2*(P-1):=lW (jb w c) (jc (by omega) (by omega));have w1:v2*(P-1)=v2*P-v2:=by grind);(have w2:v1*(P-1)=v1*P-v1:=by grind);rw[m,n];rcases hu with hu|⟨rfl,rfl,rfl,rfl⟩;{have O:u1*α<=v1*(P-1):=lW (jb hu c) (jc (by omega) (by omega));generalize u2 * α=x at*;generalize v2 * β=y at*;generalize u1 * α=R at*;generalize v1 * β=S at*;generalize v2 * P=z at*;generalize v1 * P=T at*;generalize g * P=t at*;generalize f * P=v at*;rcases r with rfl|rfl<;>omega};simp at*;generalize v2 * β=y at*;generalize v2 * P=z at*;generalize g * P=t at*;generalize f * P=v at*;omega
theorem Leh.step{b g s q r:Int}(h:Leh a b A Bb P α β f g u1 u2 v1 v2 s)(E:f=q*g+r)(r0:0<=r)(I:r<g)(p:1<=q)(hu:u1<=v1\/(u1=1/\v1=0/\u2=0/\s=1)):Leh a b A Bb P α β g r u2 (u1+q*u2) v2 (v1+q*v2) (-s):=by (obtain⟨n,o,e,i,j,k,t,C,m,D,l,d,w,v,x,c,z,B,y,J⟩:=h;have F:0<=q*u2:=lz (by omega) c;have G:v2<=q*v2:=by have:=jb p (show 0<=v2 by omega);omega);have H:q*u2<=q*v2:=jc y (by omega);refine⟨n,o,e,i,j,k,by rcases t with rfl|rfl<;>simp,m,r0,by omega,by rw[d];grind,?_,?_,?_,c,by omega,by omega,by omega,?_,by omega⟩;{(have:r=f-q*g:=by omega);rw[this,l,d];grind};{(have:r=f-q*g:=by omega);rw[this,<-w];grind};{(have:r=f-q*g:=by omega);rw[this,<-v];grind};rcases hu with hu|⟨rfl,rfl,rfl,_⟩;{omega};simp;omega
theorem guess_le(h1:b<=2*y1)(h0:y0<b)(a:U<y1*b+y0):U/y1<=b+1:=by rcases iE (b+1) (U/y1)with h|h;{(exfalso;have h2:(b+2)*y1<=U/y1*y1:=gG _ h;have h3:U/y1*y1<=U:=oF _ _;have h4:(b+2)*y1=y1*b+2*y1:=by grind);omega};exact h
theorem guess_hi(a:g*y1+r=U)(d:q*(y1*b+y0)<=U*b+u)(hu:u<b)(c:r<y1):q<=g:=by rcases iE g q with h|h;{(exfalso;have h1:(g+1)*(y1*b+y0)<=q*(y1*b+y0):=gG _ h;have h2:(g+1)*(y1*b+y0)=g*y1*b+y1*b+(g+1)*y0:=by grind);(have h3:U*b=g*y1*b+r*b:=by rw[<-a];grind);(have h4:(r+1)*b<=y1*b:=gG _ c;have h5:(r+1)*b=r*b+b:=by grind);omega};exact h
theorem guess_down(c:g*y1+r=U)(e:q*(y1*b+y0)<=U*b+u)(d:q<b)(a:b<=g\/b*r+u<g*y0):q<g:=by rcases a with a|a;{omega};rcases iE q g with h|h;{exact h};(exfalso;have h1:g*(y1*b+y0)<=q*(y1*b+y0):=gG _ h;have h2:g*(y1*b+y0)=g*y1*b+g*y0:=by grind);(have h3:U*b=g*y1*b+r*b:=by rw[<-c];grind);have h4:b*r=r*b:=gV _ _;omega
theorem guess_done(a:g*y1+r=U)(c:U*b+u<(q+1)*(y1*b+y0))(d:g*y0<=b*r+u):g<=q:=by rcases iE q g with h|h;{(exfalso;have h1:(q+1)*(y1*b+y0)<=g*(y1*b+y0):=gG _ h;have h2:g*(y1*b+y0)=g*y1*b+g*y0:=by grind);(have h3:U*b=g*y1*b+r*b:=by rw[<-a];grind);have h4:b*r=r*b:=gV _ _;omega};exact h
theorem guess_over(c:b<=r)(a:g<=b)(h0:y0<b):g*y0<=b*r+u:=by have h1:g*y0<=b*y0:=gG _ a;have h2:b*y0<=b*r:=ij _ (by omega);omega
theorem digit_lt{y:Nat}(a:U<y)(hu:u<b)(c:q*y<=U*b+u):q<b:=by rcases iE q b with h|h;{exact h};(exfalso;have h1:b*y<=q*y:=gG _ h;have h2:(U+1)*b<=y*b:=gG _ a;have h3:(U+1)*b=U*b+b:=by grind);have h4:b*y=y*b:=gV _ _;omega
end Go.Proofs.YtidknnkgdniopaaGreatDoor.W
namespace Go.Proofs.YtidknnkgdniopaaGreatDoor
open Go Go.RowKit
variable {a:Act} {ops:Array Oper} {l:List Nat} {cs news xs ys:List Value} {base bytes g i j n:Nat} {o:Oper} {s x:Operand} {cons row:Option Nat} {e t:TypeId} {c v z:Value} {b w w' w0 w1:World}
def BT(k:IntKind)(x:Nat):Value := .int k (x:Int)
def SlN(k:IntKind)(w:World)(a:Option Addr)(n c:Nat)(xs:List Nat):Prop:=Sl w a n c (xs.map (BT k))
def B4(k:IntKind)(w:World)(g:Nat)(t:TypeId)(xs:List Nat):Prop:=Arr w g t (xs.map (BT k))
section
variable {k:IntKind} {w w':World} {a:Option Addr} {n c:Nat} {xs:List Nat}
theorem SlN.ext(h:SlN k w a n c xs)(e:Ext w w'):SlN k w' a n c xs:=Sl.ext h e
theorem SlN.len(h:SlN k w a n c xs):xs.length=n:=by have:=Sl.len h;simpa using this
theorem SlN.le(h:SlN k w a n c xs):n<=9223372036854775807:=by have h1:=Sl.cap h;have h2:=Sl.max h;unfold maxLen at h2;omega
theorem SlN.cap(h:SlN k w a n c xs):n<=c:=Sl.cap h
theorem SlN.nil(k:IntKind)(w:World):SlN k w none 0 0 []:=Sl.nil w
theorem SlN.at(h:SlN k w a n c xs){j:Nat}(m:j<n):∃b d,a=some ⟨b,d,none⟩/\∀i,i<n->w.cell? ⟨b,d+i,none⟩=some (.int k ((xs.getD i 0:Nat):Int)):=by (obtain⟨b,d,f,g⟩:=Sl.rd h (by omega);refine⟨b,d,f,fun i l=>?_⟩;rw[g i l];have o:=h.len;have e:i<xs.length:=by omega);simp[e,BT]
theorem SlN.upto(h:SlN k w a n c xs){m:Nat}(b:m<=n):SlN k w a m c (xs.take m):=by have:=Sl.upto h b;rwa[<-pm]at this
theorem Sl.keptR(h:Sl w a n c cs)(j:w.grownBy w' row)(d:blk a=none\/blk a≠row):Sl w' a n c cs:=by refine⟨h.len,h.cap,h.max,fun h0=>?_⟩;obtain⟨b,e,rfl,g⟩:=h.rd h0;refine⟨b,e,rfl,fun i k=>?_⟩;have h1:=g i k;have f:b<w.heap.size:=ja w ⟨b,e+i,none⟩ h1;rcases d with d|d;{simp[blk]at d};rw[jZ (w:=w) (j.block b f d),h1]
theorem SlN.kept(h:SlN k w a n c xs)(d:w.grownBy w' row)(b:blk a=none\/blk a≠row):SlN k w' a n c xs:=Sl.keptR h d b
theorem SlN.fresh(h:SlN k w0 a n c xs){g:Nat}(i:w0.heap.size<=g)(h0:0<n):blk a≠some g:=by obtain⟨b,d,rfl,e⟩:=Sl.rd h h0;have f:b<w0.heap.size:=ja w0 ⟨b,d+0,none⟩ (e 0 h0);simp[blk];omega
end
section
variable {k:IntKind} {w w':World} {g:Nat} {t:TypeId} {xs:List Nat}
theorem B4.cell(h:B4 k w g t xs){i:Nat}(hi:i<xs.length):w.cell? ⟨g,i,none⟩=some (.int k ((xs.getD i 0:Nat):Int)):=by rw[Arr.cell h (by simpa using hi)];simp[hi,BT]
theorem B4.ext(h:B4 k w g t xs)(e:Ext w w'):B4 k w' g t xs:=Arr.ext h e
theorem B4.part(h:B4 k w g t xs){o n c:Nat}(e:o+n<=xs.length)(a:n<=c)(d:c<=maxLen):SlN k w (some ⟨g,o,none⟩) n c ((xs.drop o).take n):=by (refine⟨by simp;omega,a,d,fun _=>⟨g,o,rfl,fun i b=>?_⟩⟩;rw[h.cell (i:=o+i) (by omega)];have h1:i<n:=b;have h2:o+i<xs.length:=by omega);simp[h1,h2,BT]
theorem B4.sl(h:B4 k w g t xs){n c:Nat}(d:n<=xs.length)(a:n<=c)(b:c<=maxLen):SlN k w (some ⟨g,0,none⟩) n c (xs.take n):=by have:=h.part (o:=0) (n:=n) (by omega) a b;simpa using this
end
theorem Own.arr(h:Own w base e (some ⟨g,0,none⟩) n n cs):Arr w g e cs:=by have k:=h.len;rcases h.2 with⟨a,_⟩|⟨j,c,b,a,_,d,_,_,f,i⟩;{simp at a};(simp only[gZ,gL,j3,jw,lX]at a;obtain⟨rfl,rfl⟩:=a;unfold Arr;rw[d];have:b.toList=cs:=by rw[<-i];exact(gF (by simp[f])).symm);rw[<-this]
structure Num(B:Nat)(xs:List Nat)(v:Nat):Prop where
 bnd:W.bnd B xs
 nrm:W.nrm xs
 val:W.val B xs=v
theorem Num.nil(B:Nat):Num B [] 0:=⟨fun x a=>(by simp at a),W.nrm_nil,rfl⟩
theorem Num.trim{B:Nat}{xs:List Nat}{v:Nat}(h:W.bnd B xs)(a:W.val B xs=v):Num B (W.trim xs) v:=⟨W.bnd_trim h,W.trim_nrm xs,by rw[W.trim_val];exact a⟩
def Lm(k:IntKind)(B:Nat)(w:World)(v:Nat)(e:Ending)(w':World):Prop:=∃a n c xs,e=.returned (.slice a n c)/\Ext w w'/\SlN k w' a n c xs/\Num B xs v
def Ay(k:IntKind)(w:World)(base:Nat)(e:TypeId)(g n c:Nat)(xs:List Nat):Prop:=Own w base e (some ⟨g,0,none⟩) n c (xs.map (BT k))
section
variable {k:IntKind} {w w':World} {base:Nat} {e:TypeId} {g n c:Nat} {xs:List Nat}
theorem Ay.len(h:Ay k w base e g n c xs):xs.length=n:=by have:=Own.len h;simpa using this
theorem Ay.le(h:Ay k w base e g n c xs):n<=9223372036854775807:=by have h1:=Own.cap h;have h2:=(Own.sl h).max;unfold maxLen at h2;omega
theorem Ay.lo(h:Ay k w base e g n c xs):base<=g:=(Own.lt h (k:=g) rfl).1
theorem Ay.lt(h:Ay k w base e g n c xs):g<w.heap.size:=(Own.lt h (k:=g) rfl).2
theorem Ay.cell(h:Ay k w base e g n c xs){i:Nat}(hi:i<n):w.cell? ⟨g,i,none⟩=some (.int k ((xs.getD i 0:Nat):Int)):=by (have b:=h.len;have a:i<xs.length:=by omega);rw[Own.cellAt h hi];simp[a,BT]
theorem Ay.frozen(h:Ay k w base e g n c xs)(i:Nat):w.frozen? ⟨g,i,none⟩=false:=Own.frozenAt h i
theorem Ay.set(h:Ay k w base e g n c xs)(i v:Nat):Ay k (w.setCell ⟨g,i,none⟩ (.int k (v:Int))) base e g n c (xs.set i v):=by have:=Own.stored h i (BT k v);rwa[<-mN]at this
theorem Ay.ext(h:Ay k w base e g n c xs)(x:Ext w w'):Ay k w' base e g n c xs:=Own.ext h x
theorem Ay.drewN(h:Ay k w base e g n c xs)(m:Nat):Ay k (w.drewN m) base e g n c xs:=Own.drewN h m
theorem Ay.kept{row:Option Nat}(h:Ay k w base e g n c xs)(b:w.grownBy w' row)(a:some g≠row):Ay k w' base e g n c xs:=Own.kept h b (Or.inr a)
theorem Ay.sl(h:Ay k w base e g n c xs):SlN k w (some ⟨g,0,none⟩) n c xs:=Own.sl h
theorem Ay.of_zeros(h:Own w base e (some ⟨g,0,none⟩) n c (List.replicate n (.int k 0))):Ay k w base e g n c (List.replicate n 0):=by unfold Ay;rw[mi];exact h
theorem Ay.arr(h:Ay k w base e g n n xs):B4 k w g e xs:=Own.arr h
theorem B4.own(h:B4 k w g e xs)(a:base<=g)(b:xs.length<=maxLen):Ay k w base e g xs.length xs.length xs:=by refine⟨by simp,Or.inr ⟨g,xs.length,(xs.map (BT k)).toArray,rfl,a,h,lrf _,b,by simp,?_⟩⟩;rw[k9];exact gF (by simp)
end
theorem CZ(w:World)(row:Option Nat):w.grownBy w row:=nI w row
theorem J9{a c:World}(h:a.grownBy b row)(k:b.grownBy c row):a.grownBy c row := ⟨k.os.trans h.os,k.tape.trans h.tape,k.output.trans h.output,gH h.size k.size,fun i e d=>(k.block i (ig e h.size) d).trans (h.block i e d)⟩
theorem Im{a c:World}(h:a.grownBy b row)(k:Ext b c):a.grownBy c row := ⟨k.os.trans h.os,k.tape.trans h.tape,k.output.trans h.output,gH h.size k.size,fun i e d=>(k.block (ig e h.size)).trans (h.block i e d)⟩
theorem DF{a:World}(h:a.grownBy b (some g))(j:Nat)(u:Value):a.grownBy (b.setCell ⟨g,j,none⟩ u) (some g):=J9 h (Am b g j u)
theorem Ext.grownR(h:Ext w w1)(a:w1.grownBy w' (some g))(c:w.heap.size<=g):Ext w w':=h.grown a (fun k b=>by simp only[gL]at b;omega)
theorem MP(h:w.grownBy w' none):Ext w w':=(Ext.refl w).grown h (fun k a=>by cases a)
inductive Ty where
| eq (c:Value)
| pr (p:Value->World->Prop)
def Ty.ok:Ty->Value->World->Prop
| .eq c,v,_=>v=c
| .pr p,v,w=>p v w
structure Hd where
 mu:Bool
 ty:Ty
 cons:Option Nat
def he(c:Value):Hd:=⟨false,.eq c,none⟩
def hp(p:Value->World->Prop):Hd:=⟨false,.pr p,none⟩
def hu(k:Nat)(p:Value->World->Prop):Hd:=⟨false,.pr p,some k⟩
def hmp(p:Value->World->Prop):Hd:=⟨true,.pr p,none⟩
def B5(o:Oper):List Nat:=(o.after.toList.filter (Region.binds .any ·)).map (·.on)
def Bn(ops:Array Oper)(j:Nat):Option Tmp:=(ops[j]?).bind (·.dst)
def O6(ops:Array Oper)(o:Oper)(t:Tmp):Option Nat:=(B5 o).find? (fun j=>Bn ops j==some t)
def anc(ops:Array Oper):Nat->List Nat->List Nat
| 0,l=>l
| f+1,l=>l++anc ops f (l.flatMap fun j=>((ops[j]?).map B5).getD [])
def Qq(o:Oper):List Tmp:=o.op.operands.toList.filterMap fun|.tmp t=>some t|_=>none
def El(ops:Array Oper)(o:Oper):List Tmp:=Qq o++(match o.guard with|some (j,_)=>(Bn ops j).toList|none=>[])
def JP(ops:Array Oper)(o:Oper):Bool:=match o.guard with|some (j,_)=>(B5 o).contains j && (Bn ops j).isSome|none=>true
def Co(ops:Array Oper)(j:Nat):List Nat:=((ops[j]?).map B5).getD []
def Qr(ops:Array Oper)(cons:List (Option Nat))(n size:Nat)(i:Nat)(o:Oper):Bool :=
 (B5 o).all (· < i) && (o.dst.all (· < size)) && JP ops o &&
 (El ops o).all (fun t=>(List.range n).all fun j=>Bn ops j != some t || j==i || (B5 o).contains j || (Co ops j).contains i) &&
 (List.range n).all (fun j=>j==i || Bn ops j != o.dst || o.dst==none) &&
 (B5 o).all (fun j=>match (cons[j]?).bind id with|some k=>k==i || (Co ops k).contains i || !((El ops o).any fun t=>Bn ops j==some t)|none=>true)
def hd0:Hd:=⟨false,.eq undef,none⟩
def AQ(hs:List Hd)(j:Nat):Hd:=hs.getD j hd0
def KF(ops:Array Oper)(hs:List Hd)(a0:Act)(o:Oper)(ρ:Operand->Value)(w:World):Operand->Prop
| .tmp t=>match O6 ops o t with
 |some j=>match (AQ hs j).ty with
  |.eq c=>ρ (.tmp t)=c
  |.pr p=>∃v,ρ (.tmp t)=v/\p v w
 |none=>ρ (.tmp t)=a0.eval (.tmp t)
| _=>True
def Cl(ops:Array Oper)(hs:List Hd)(a0:Act)(o:Oper)(ρ:Operand->Value)(w:World):List Operand->Prop
| []=>True
| x::r=>KF ops hs a0 o ρ w x/\Cl ops hs a0 o ρ w r
structure Dy(ρ:Operand->Value):Prop where
 const:∀v,ρ (.const v)=v
 global:∀g,ρ (.global g)=.pointer (some ⟨g,0,none⟩)
 func:∀f,ρ (.func f)=.func (.func f) #[] #[]
theorem KG(a:Act):Dy a.eval:=⟨fun _=>rfl,fun _=>rfl,fun _=>rfl⟩
def GP(P:Program)(R:Value->World->Prop):Result Next->Prop
| .ok (.value u) w'=>R u w'
| .ok .skip w'=>R undef w'
| .ok (.enter f args) w'=>Calls P f args w' (fun e w''=>∃u,e=.returned u/\R u w'')
| _=>False
def Cb(hs:List Hd)(o:Oper):Option Bool :=
 match o.guard with
| none=>some true
| some (j,b)=>match (AQ hs j).ty with
 |.eq (.bool c)=>some (c==b)
 |.eq (.tuple _)=>some false
 |_=>none
def DV(ops:Array Oper)(hs:List Hd)(i:Nat)(o:Oper)(j:Nat):Bool :=
 j != i && (match (AQ hs j).ty with|.eq _=>false|.pr _=>true) && !(anc ops 3 (Co ops j)).contains i &&
 !(match (AQ hs j).cons with|some k=>k==i || (anc ops 3 (B5 o)).contains k|none=>false)
def GB(ops:Array Oper)(hs:List Hd)(i:Nat)(o:Oper)(w w':World):List Nat->Prop
| []=>True
| j::r=>(if DV ops hs i o j then ∀v,(AQ hs j).ty.ok v w->(AQ hs j).ty.ok v w' else True)/\GB ops hs i o w w' r
def EE(C:World->Prop)(ops:Array Oper)(hs:List Hd)(i:Nat)(o:Oper)(h:Hd)(w:World)(u:Value)(w':World):Prop :=
 match h.ty with
| .eq c=>w'=w/\u=c
| .pr p=>if h.mu then C w'/\GB ops hs i o w w' (List.range hs.length)/\p u w' else Ext w w'/\p u w'
def obl(P:Program)(C:World->Prop)(ops:Array Oper)(hs:List Hd)(a0:Act)(i:Nat)(o:Oper)(h:Hd):Prop :=
 match Cb hs o with
| some true=>∀ρ w,Dy ρ->C w->Cl ops hs a0 o ρ w o.op.operands.toList->GP P (EE C ops hs i o h w) ((execOp ρ o).run P w)
| some false=>∀w,C w->h.ty.ok undef w
| none=>False
def Lv(P:Program)(C:World->Prop)(ops:Array Oper)(hs:List Hd)(a0:Act):Nat->List Oper->List Hd->Prop
| _,_,[]=>True
| i,o::os,h::r=>obl P C ops hs a0 i o h/\Lv P C ops hs a0 (i+1) os r
| _,[],_::_=>False
theorem O7{t:List Hd}(f:JP ops o=true)(l:∀j∈B5 o,∀c,(AQ t j).ty=.eq c->∀d,Bn ops j=some d->a.tmps.getD d undef=c):∀b,Cb t o=some b->Region.wanted o (yielded ops a.tmps)=b:=by intro b e;unfold Cb at e;unfold Region.wanted;cases r:o.guard with|none=>{rw[r]at e;simpa using e}|some g=>obtain⟨j,w⟩:=g;rw[r]at e;simp only at e|-;unfold JP at f;rw[r]at f;simp only[ju,jM]at f;obtain⟨s,q⟩:=f;obtain⟨d,v⟩:=jp.1 q;have n:(ops[j]?).bind (·.dst)=some d:=v;cases i:(AQ t j).ty with|pr p=>{rw[i]at e;cases e}|eq c=>rw[i]at e;have k:=l j s c i d v;rw[lJ]at k;unfold yielded;rw[n,kN];cases c with|bool c=>{(simp only[gL]at e;have h1:a.tmps[d]?=some (.bool c):=by cases m:a.tmps[d]? with|none=>{rw[m]at k;cases k}|some y=>rw[m]at k;simpa using k);rw[h1,<-e];cases c<;>cases w<;>rfl}|tuple xs=>{simp only[gL]at e;rw[<-e];cases m:a.tmps[d]? with|none=>{rfl}|some y=>rw[m,ib]at k;rw[k];rfl}|_=>cases e
def Em(w:World)(K:Act->Prop):List Oper->List Hd->Act->Prop
| o::os,h::r,a=>match h.ty with
 |.eq c=>Em w K os r (a.put o.dst c)
 |.pr p=>match h.cons with
  |none=>∀v,p v w->Em w K os r (a.put o.dst v)
  |some _=>∀v,Em w K os r (a.put o.dst v)
| _,_,a=>K a
def Wt(h:Hd):Prop:=match h.ty with|.eq _=>True|.pr p=>∀v w w',Ext w w'->p v w->p v w'
def GC:List Hd->Prop
| []=>True
| h::r=>Wt h/\GC r
/-! ### Soundness -/
section
variable {P:Program} {ops:Array Oper} {hs:List Hd} {a0:Act} {C:World->Prop} {Q:Exit->Act->World->Prop}
def BI(ops:Array Oper)(j:Nat)(a:Act):Value:=match Bn ops j with|some d=>a.tmps.getD d undef|none=>undef
structure Jy(ops:Array Oper)(hs:List Hd)(a0:Act)(C:World->Prop)(listed:Array Bool)(a:Act)(w:World):Prop where
 size:listed.size=ops.size
 tailF:∀j,hs.length<=j->listed.getD j false=false
 closed:∀j,listed.getD j false=true->∀p∈Co ops j,listed.getD p false=true
 world:C w
 defers:a.defers=a0.defers
 tmps:a.tmps.size=a0.tmps.size
 frame:∀t,(∀j,j<hs.length->listed.getD j false=true->Bn ops j≠some t)->a.tmps.getD t undef=a0.tmps.getD t undef
 facts:∀j,j<hs.length->listed.getD j false=true->(∀k,(AQ hs j).cons=some k->listed.getD k false=false)->∃v,(AQ hs j).ty.ok v w/\∀d,Bn ops j=some d->a.tmps.getD d undef=v
 values:∀j c,j<hs.length->listed.getD j false=true->(AQ hs j).ty=.eq c->∀d,Bn ops j=some d->a.tmps.getD d undef=c
theorem Cz{listed:Array Bool}(a:∀j,listed.getD j false=true->∀p∈Co ops j,listed.getD p false=true):∀(f:Nat) (l:List Nat),(∀j∈l,listed.getD j false=true)->∀j∈anc ops f l,listed.getD j false=true
|0,_,h,j,hj=>h j hj
|f+1,l,h,j,hj=>by simp only[anc,iA]at hj;rcases hj with hj|hj;{exact h j hj};refine Cz a f _ ?_ j hj;intro k hk;rw[j8]at hk;obtain⟨m,hm,hk⟩:=hk;exact a m (h m hm) k hk
theorem Mk :j∈B5 o<->∃e∈o.after,Region.binds .any e=true/\e.on=j:=by simp[B5,and_assoc]
theorem Fb{listed:Array Bool}(h:i∈Region.ready .any ops listed):listed.getD i true=false/\∃o,ops[i]?=some o/\∀p∈B5 o,listed.getD p false=true:=by obtain⟨h0,o,c,a⟩:=oI.1 h;refine⟨h0,o,c,fun p hp=>?_⟩;obtain⟨e,he,b,rfl⟩:=Mk.1 hp;exact a e he b
theorem O8{listed:Array Bool}(h0:listed.getD i true=false)(b:ops[i]?=some o)(h:∀p∈B5 o,listed.getD p false=true):i∈Region.ready .any ops listed := oI.2 ⟨h0,o,b,fun e he a=>h _ (Mk.2 ⟨e,he,a,rfl⟩)⟩
theorem Fc(a:ops[i]?=some o):Co ops i=B5 o:=by simp[Co,a]
theorem B7(a:ops[i]?=some o):Bn ops i=o.dst:=by simp[Bn,a]
theorem II{i:Nat}{o:Oper}{w a:World}:∀{l:List Nat},GB ops hs i o w a l->∀j∈l,DV ops hs i o j=true->∀v,(AQ hs j).ty.ok v w->(AQ hs j).ty.ok v a
|_::_,h,j,hj,hm,v,hv=>by rcases iP.1 hj with rfl|hj;{have h1:=h.1;rw[gX hm]at h1;exact h1 v hv};exact II h.2 j hj hm v hv
theorem KH{i:Nat}{o:Oper}{w b:World}:∀{l:List Nat},(∀j∈l.filter (DV ops hs i o),∀v,(AQ hs j).ty.ok v w->(AQ hs j).ty.ok v b)->GB ops hs i o w b l
|[],_=>trivial
|j::r,h=>by refine⟨?_,KH fun k a=>h k (by rw[List.filter_cons];split;{exact mE _ a};exact a)⟩;by_cases hm:DV ops hs i o j=true;{rw[gX hm];exact h j (by rw[List.filter_cons,gX hm];simp)};rw[gQ hm];trivial
theorem Ml(h:l.filter (DV ops hs i o)=[j])(b:∀v,(AQ hs j).ty.ok v w->(AQ hs j).ty.ok v w'):GB ops hs i o w w' l := KH (by rw[h];intro k a;rw[gK]at a;subst a;exact b)
theorem IJ:∀{l:List Hd},GC l->∀h∈l,Wt h
|_::_,hh,h,hm=>by rcases iP.1 hm with rfl|hm;{exact hh.1};exact IJ hh.2 h hm
theorem RO{h:Hd}(a:Wt h){v:Value}{w d:World}(e:Ext w d)(b:h.ty.ok v w):h.ty.ok v d:=by unfold Wt at a;revert a b;cases h.ty with|eq c=>{exact fun _ b=>b}|pr p=>exact fun a b=>a v w d e b
theorem Nn{R:Value->World->Prop}{K:Act->World->Prop}(h:GP P R ((execOp a.eval o).run P w))(c:∀u b,R u b->K (a.put o.dst u) b):o.wp P a w K Q:=by unfold Oper.wp;generalize (execOp a.eval o).run P w=r at*;cases r with|ok n b=>{cases n<;>simp only[GP]at h<;>simp only[Oper.upon];(case value u=>exact c u b h);(case skip=>exact c undef b h);case enter f args=>exact h.mono fun e d ⟨u,he,g⟩=>by subst he;exact c u d g}|halt x b=>simp only[GP]at h
theorem Cv{d t:Tmp}:(a.put (some d) v).tmps.getD t undef=if d=t/\d<a.tmps.size then v else a.tmps.getD t undef:=by simp only[Act.put,lJ];by_cases h:d=t;{subst h;by_cases h2:d<a.tmps.size;{simp[h2]};simp[h2]};rw[lV h];simp[h]
theorem Hm{d:Option Tmp}:(a.put d v).tmps.size=a.tmps.size:=by cases d<;>simp[Act.put]
theorem GQ{d:Option Tmp}:(a.put d v).defers=a.defers:=by cases d<;>rfl
def unl(listed:Array Bool):Nat->Nat
| 0=>0
| n+1=>unl listed n+(if listed.getD n false=true then 0 else 1)
theorem KI{listed:Array Bool}{i:Nat}:∀{n:Nat},n<=i->unl (listed.setIfInBounds i true) n=unl listed n
|0,_=>rfl
|n+1,h=>by rw[unl,unl,KI (by omega),nU false (by omega)]
theorem Np{listed:Array Bool}{i:Nat}(b:i<listed.size)(a:listed.getD i false=false):∀{n:Nat},i<n->unl (listed.setIfInBounds i true) n+1=unl listed n
|0,h=>by omega
|n+1,h=>by rw[unl,unl];by_cases hi:i=n;{(subst hi;rw[KI (lrf _),a];have:(listed.setIfInBounds i true).getD i false=true:=by simp[b]);rw[this];simp};rw[nU false hi,<-Np b a (n:=n) (by omega)];omega
theorem Hn{listed:Array Bool}:∀{n:Nat},unl listed n=0->∀j,j<n->listed.getD j false=true
|0,_,j,hj=>by omega
|n+1,h,j,hj=>by rw[unl]at h;by_cases hj':j=n;{subst hj';by_cases hx:listed.getD j false=true;{exact hx};rw[gQ hx]at h;omega};exact Hn (n:=n) (by omega) j (by omega)
theorem Ho{listed:Array Bool}:∀{n:Nat},unl listed n≠0->∃j,j<n/\listed.getD j false=false/\∀k,k<j->listed.getD k false=true
|0,h=>absurd rfl h
|n+1,h=>by by_cases h0:unl listed n=0;{refine⟨n,by omega,?_,fun k a=>Hn h0 k a⟩;rw[unl,h0]at h;by_cases hx:listed.getD n false=true;{rw[gX hx]at h;omega};simpa using hx};obtain⟨j,hj,h1,h2⟩:=Ho h0;exact⟨j,by omega,h1,h2⟩
theorem O9(r:List Hd):∀(a:List Oper) (b:Nat),Lv P C ops hs a0 b a r->∀(k:Nat) (o:Oper),a[k]?=some o->k<r.length->obl P C ops hs a0 (b+k) o (r.getD k hd0):=by induction r with|nil=>{intro a b _ k o _ d;simp at d}|cons h r ih=>intro a b e k o c d;cases a with|nil=>{simp at c}|cons o' a=>cases k with|zero=>{simp only[kj,gL]at c;subst c;exact e.1}|succ k=>have:=ih a (b+1) e.2 k o (by simpa using c) (by simpa using d);rw[jK,jJ 1 k]at this;simpa using this
structure EF(ops:Array Oper)(cons:List (Option Nat))(n size:Nat)(i:Nat)(o:Oper):Prop where
 lt:∀p∈B5 o,p<i
 dst:∀d,o.dst=some d->d<size
 grd:JP ops o=true
 look:∀t∈El ops o,∀j,j<n->Bn ops j=some t->j=i\/j∈B5 o\/i∈Co ops j
 apart:∀j,j<n->j≠i->Bn ops j=o.dst->o.dst=none
 cons:∀j∈B5 o,∀k,(cons[j]?).bind id=some k->k=i\/i∈Co ops k\/∀t∈El ops o,Bn ops j≠some t
theorem Jj{a:List (Option Nat)}{size:Nat}(h:Qr ops a n size i o=true):EF ops a n size i o:=by unfold Qr at h;simp only[ju]at h;obtain⟨⟨⟨⟨⟨h1,h2⟩,h3⟩,h4⟩,h5⟩,h6⟩:=h;refine⟨?_,?_,h3,?_,?_,?_⟩;{intro p hp;simpa using jR.1 h1 p hp};{intro d b;rw[b]at h2;simpa using h2};{intro t g j c b;have:=jR.1 (jR.1 h4 t g) j (by simpa using c);simp only[mT,pg,ne_eq,mc,jM]at this;rcases this with((h|h)|h)|h;{exact absurd b h};{exact Or.inl h};{exact Or.inr (Or.inl h)};exact Or.inr (Or.inr h)};{intro j c e b;have:=jR.1 h5 j (by simpa using c);simp only[mT,pg,ne_eq,mc]at this;rcases this with(h|h)|h;{exact absurd h e};{exact absurd b h};exact h};intro j c k f;have:=jR.1 h6 j c;rw[f]at this;simp only[mT,mc,jM,oO,List.any_eq_false]at this;rcases this with(h|h)|h;{exact Or.inl h};{exact Or.inr (Or.inl h)};exact Or.inr (Or.inr h)
theorem Pa(a:j<hs.length):((hs.map (·.cons))[j]?).bind id=(AQ hs j).cons:=by simp[AQ,a]
theorem KJ{t:Tmp}(h:O6 ops o t=some j):j∈B5 o/\Bn ops j=some t:=by have h1:=List.mem_of_find?_eq_some h;have h2:=List.find?_some h;exact⟨h1,by simpa using h2⟩
theorem KK{t:Tmp}(h:O6 ops o t=none){j:Nat}(a:j∈B5 o):Bn ops j≠some t:=by have:=List.find?_eq_none.1 h j a;simpa using this
theorem KL{o:Oper}{a:Operand->Value}{w:World}:∀{l:List Operand},(∀x∈l,KF ops hs a0 o a w x)->Cl ops hs a0 o a w l
|[],_=>trivial
|x::r,h=>⟨h x (by simp),KL fun y b=>h y (by simp[b])⟩
theorem UZ(a8:Lv P C ops hs a0 0 ops.toList hs)(ae:GC hs)(ab:∀w n,Ext w n->C w->C n){listed:Array Bool}{a:Act}{w:World}(e:Jy ops hs a0 C listed a w){i:Nat}(hi:i∈Region.ready .any ops listed)(a2:i<hs.length)(ad:∀o,ops[i]?=some o->EF ops (hs.map (·.cons)) hs.length a0.tmps.size i o){K:Act->World->Prop}(hK:∀a' n,Jy ops hs a0 C (listed.setIfInBounds i true) a' n->K a' n):wpOp P ops Q i K a w:=by (obtain⟨h0,o,V,L⟩:=Fb hi;have T:=ad o V;have a1:i<listed.size:=by rw[e.size];exact(iW.1 V).1);(have Z:listed.getD i false=false:=by simpa[a1]using h0);(have s:listed.getD i false≠true:=by rw[Z];simp);(have N:(listed.setIfInBounds i true).getD i false=true:=by simp[a1]);(have A:obl P C ops hs a0 i o (AQ hs i):=by have:=O9 hs ops.toList 0 a8 i o (by simpa using V) a2;simpa[AQ]using this);(have a9:Cl ops hs a0 o a.eval w o.op.operands.toList:=by refine KL fun x hx=>?_;cases x with|tmp t=>{(have a7:t∈El ops o:=by unfold El Qq;rw[iA];left;rw[List.mem_filterMap];exact⟨_,hx,rfl⟩);simp only[KF];cases a6:O6 ops o t with|none=>{simp only[Act.eval];refine e.frame t fun j g G m=>?_;rcases T.look t a7 j g m with h|h|h;{subst h;exact s G};{exact KK a6 h m};exact s (e.closed j G i h)}|some j=>(obtain⟨S,O⟩:=KJ a6;have R:j<hs.length:=by have:=T.lt j S;omega);have a3:=L j S;simp only;cases f:(AQ hs j).ty with|eq c=>{exact e.values j c R a3 f t O}|pr p=>obtain⟨v,y,X⟩:=e.facts j R a3 (by intro k B;have:=T.cons j S k (by rw[Pa R];exact B);rcases this with h|h|h;{subst h;exact Z};{by_cases D:listed.getD k false=true;{exact absurd (e.closed k D i h) s};simpa using D};exact absurd O (h t a7));rw[f]at y;exact⟨v,X t O,y⟩}|_=>trivial);(have r:∀u n,C n->(AQ hs i).ty.ok u n->(∀j,j<hs.length->j≠i->listed.getD j false=true->(∀k,(AQ hs j).cons=some k->(listed.setIfInBounds i true).getD k false=false)->∀v,(AQ hs j).ty.ok v w->(AQ hs j).ty.ok v n)->Jy ops hs a0 C (listed.setIfInBounds i true) (a.put o.dst u) n:=by (intro u n hC hu U;have F:∀j,j<hs.length->j≠i->∀d,Bn ops j=some d->(a.put o.dst u).tmps.getD d undef=a.tmps.getD d undef:=by intro j g z d m;cases J:o.dst with|none=>{rfl}|some d'=>(rw[Cv];have:d'≠d:=by rintro rfl;have:=T.apart j g z (by rw[m,J]);rw[J]at this;cases this);rw[gQ (fun h=>this h.1)]);(have M:∀d,Bn ops i=some d->(a.put o.dst u).tmps.getD d undef=u:=by intro d m;rw[B7 V]at m;rw[m,Cv,gX ⟨rfl,by rw[e.tmps];exact T.dst d m⟩]);(have q:∀j,j≠i->(listed.setIfInBounds i true).getD j false=true->listed.getD j false=true:=by intro j z h;rwa[nU false (Ne.symm z)]at h);refine⟨by rw[ph];exact e.size,?_,?_,hC,by rw[GQ];exact e.defers,by rw[Hm];exact e.tmps,?_,?_,?_⟩;{intro j g;rw[nU false (by omega)];exact e.tailF j g};{intro j g p hp;by_cases l:j=i;{subst l;rw[Fc V]at hp;exact lg (L p hp)};exact lg (e.closed j (q j l g) p hp)};{(intro t ht;have h1:o.dst≠some t:=by have:=ht i a2 N;rwa[B7 V]at this);have h2:a.tmps.getD t undef=a0.tmps.getD t undef:=e.frame t fun j g G=>ht j g (lg G);cases J:o.dst with|none=>{exact h2}|some d'=>rw[Cv,gQ (fun h=>h1 (by rw[J,h.1]))];exact h2};{intro j g G H;by_cases l:j=i;{subst l;exact⟨u,hu,M⟩};have a4:=q j l G;obtain⟨v,y,X⟩:=e.facts j g a4 (by intro k B;have:=H k B;by_cases D:listed.getD k false=true;{rw[lg D]at this;cases this};simpa using D);exact⟨v,U j g l a4 H v y,fun d m=>by rw[F j g l d m];exact X d m⟩};intro j c g G f d m;by_cases l:j=i;{subst l;rw[f]at hu;rw[M d m];exact hu};rw[F j g l d m];exact e.values j c g (q j l G) f d m);have Y:=O7 T.grd (fun j g c f d m=>e.values j c (by have:=T.lt j g;omega) (L j g) f d m);unfold wpOp;rw[V];simp only;unfold obl at A;cases hw:Cb hs o with|none=>{rw[hw]at A;exact A.elim}|some b=>rw[hw]at A;rw[Y b hw];cases b with|true=>{rw[gX rfl];left;refine Nn (A a.eval w (KG a) e.world a9) fun u n E=>hK _ _ ?_;unfold EE at E;cases f:(AQ hs i).ty with|eq c=>{rw[f]at E;obtain⟨rfl,rfl⟩:=E;exact r u n e.world (by rw[f];rfl) fun _ _ _ _ _ v y=>y}|pr p=>rw[f]at E;simp only at E;by_cases a5:(AQ hs i).mu=true;{rw[gX a5]at E;obtain⟨aa,ac,hp⟩:=E;refine r u n aa (by rw[f];exact hp) fun j g z G H v y=>?_;cases W:(AQ hs j).ty with|eq c=>{rw[W]at y;exact y}|pr p'=>(rw[<-W];refine II ac j (by simpa using g) ?_ v y;have c1:i∉anc ops 3 (Co ops j):=fun h=>s (Cz e.closed 3 _ (e.closed j G) i h);have c2:∀k,(AQ hs j).cons=some k->k≠i/\k∉anc ops 3 (B5 o):=by intro k B;have I:=H k B;refine⟨?_,fun hm=>?_⟩;{rintro rfl;rw[N]at I;cases I};rw[lg (Cz e.closed 3 _ L k hm)]at I;cases I);unfold DV;rw[W];cases hc:(AQ hs j).cons with|none=>{simp[z,c1]}|some k=>obtain⟨d1,d2⟩:=c2 k hc;simp[z,c1,d1,d2]};rw[gQ a5]at E;exact r u n (ab w n E.1 e.world) (by rw[f];exact E.2) fun j g _ _ _ v y=>RO (IJ ae _ (by rw[AQ,gqq,gD g];simp)) E.1 y}|false=>simp only[l9,mX];exact hK _ _ (r undef w e.world (A w e.world) fun _ _ _ _ _ v y=>y)
def C5(vs:Nat->Value):Nat->List Oper->List Hd->Act->Act
| i,o::os,_::r,a=>C5 vs (i+1) os r (a.put o.dst (vs i))
| _,_,_,a=>a
theorem KM{K:Act->Prop}{vs:Nat->Value}:∀(r:List Hd) (d:List Oper) (i:Nat) (a:Act),Em w K d r a->(∀k,k<r.length->∀c,(r.getD k hd0).ty=.eq c->vs (i+k)=c)->(∀k,k<r.length->∀p,(r.getD k hd0).ty=.pr p->(r.getD k hd0).cons=none->p (vs (i+k)) w)->K (C5 vs i d r a):=by intro r;induction r with|nil=>{intro d i a h _ _;cases d<;>exact h}|cons h r ih=>intro d i a b h1 h2;cases d with|nil=>{exact b}|cons o d=>(have g:∀k,k<r.length->∀c,(r.getD k hd0).ty=.eq c->vs (i+1+k)=c:=by intro k l c f;have:=h1 (k+1) (by simpa using l) c (by simpa using f);rwa[jK,jJ 1 k]);(have j:∀k,k<r.length->∀p,(r.getD k hd0).ty=.pr p->(r.getD k hd0).cons=none->p (vs (i+1+k)) w:=by intro k l p hp f;have:=h2 (k+1) (by simpa using l) p (by simpa using hp) (by simpa using f);rwa[jK,jJ 1 k]);unfold Em at b;unfold C5;have m:=h1 0 (by simp);have n:=h2 0 (by simp);simp only[kC,iH]at m n;cases e:h.ty with|eq c=>{rw[e]at b;rw[m c e];exact ih d (i+1) _ b g j}|pr p=>rw[e]at b;simp only at b;cases f:h.cons with|none=>{rw[f]at b;exact ih d (i+1) _ (b _ (n p e f)) g j}|some k=>rw[f]at b;exact ih d (i+1) _ (b _) g j
theorem Jk{vs:Nat->Value}:∀(r:List Hd) (b:List Oper) (i:Nat) (a:Act),(C5 vs i b r a).tmps.size=a.tmps.size:=by intro r;induction r with|nil=>{intro b i a;cases b<;>rfl}|cons h r ih=>intro b i a;cases b with|nil=>{rfl}|cons o b=>unfold C5;rw[ih,Hm]
theorem GD{vs:Nat->Value}:∀(r:List Hd) (b:List Oper) (i:Nat) (a:Act),(C5 vs i b r a).defers=a.defers:=by intro r;induction r with|nil=>{intro b i a;cases b<;>rfl}|cons h r ih=>intro b i a;cases b with|nil=>{rfl}|cons o b=>unfold C5;rw[ih,GQ]
theorem Fd{vs:Nat->Value}{t:Tmp}:∀(r:List Hd) (b:List Oper) (i:Nat) (a:Act),(∀k o,k<r.length->b[k]?=some o->o.dst≠some t)->(C5 vs i b r a).tmps.getD t undef=a.tmps.getD t undef:=by intro r;induction r with|nil=>{intro b i a _;cases b<;>rfl}|cons h r ih=>intro b i a c;cases b with|nil=>{rfl}|cons o b=>unfold C5;rw[ih b (i+1) _ (fun k j f g=>c (k+1) j (by simpa using f) (by simpa using g))];have:=c 0 o (by simp) rfl;cases e:o.dst with|none=>{rfl}|some d=>rw[Cv,gQ (fun h=>this (by rw[e,h.1]))]
theorem KN{vs:Nat->Value}{t:Tmp}:∀(r:List Hd) (d:List Oper) (i:Nat) (a:Act) (k:Nat) (o:Oper),k<r.length->d[k]?=some o->o.dst=some t->t<a.tmps.size->(∀j n,j < r.length->d[j]?=some n->n.dst=some t->j=k)->(C5 vs i d r a).tmps.getD t undef=vs (i+k):=by intro r;induction r with|nil=>{intro d i a k o m;simp at m}|cons h r ih=>intro d i a k o m l p q c;cases d with|nil=>{simp at l}|cons n d=>unfold C5;cases k with|zero=>{simp only[kj,gL]at l;subst l;rw[Fd r d (i+1) _ (fun k g f b e=>by have:=c (k+1) g (by simpa using f) (by simpa using b) e;omega)];rw[p,Cv,gX ⟨rfl,q⟩,iH]}|succ k=>rw[ih d (i+1) _ k o (by simpa using m) (by simpa using l) p (by rw[Hm];exact q) (fun j g f b e=>by have:=c (j+1) g (by simpa using f) (by simpa using b) e;omega)];rw[jK,jJ 1 k]
theorem RP{b:Act}(h1:a.defers=b.defers)(h2:a.tmps.size=b.tmps.size)(h3:∀t,a.tmps.getD t undef=b.tmps.getD t undef):a=b:=by cases a;cases b;simp only at h1 h2 h3;subst h1;congr 1;apply Array.ext h2;intro i c d;have:=h3 i;simpa[c,d]using this
end
/-! ### The operations' notes,kind by kind -/
section
variable {P:Program} {ops:Array Oper} {hs:List Hd} {a0:Act} {C:World->Prop} {i:Nat} {o:Oper}
theorem RQ(d:o.guard=none)(h:∀a w,Dy a->C w->Cl ops hs a0 o a w o.op.operands.toList->(execOp a o).run P w=.ok (.value c) w):obl P C ops hs a0 i o (he c):=by unfold obl Cb;rw[d];intro a w hp b e;rw[h a w hp b e];exact⟨rfl,rfl⟩
theorem AO{p:Value->World->Prop}(d:o.guard=none)(h:∀a w,Dy a->C w->Cl ops hs a0 o a w o.op.operands.toList->∃v b,(execOp a o).run P w=.ok (.value v) b/\Ext w b/\p v b):obl P C ops hs a0 i o ⟨false,.pr p,cons⟩:=by unfold obl Cb;rw[d];intro a w hp c f;obtain⟨v,b,e,h1,h2⟩:=h a w hp c f;rw[e];exact⟨h1,h2⟩
theorem Wu{p:Value->World->Prop}(d:o.guard=none)(h:∀b w,Dy b->C w->Cl ops hs a0 o b w o.op.operands.toList->∃v a,(execOp b o).run P w=.ok (.value v) a/\C a/\GB ops hs i o w a (List.range hs.length)/\p v a):obl P C ops hs a0 i o ⟨true,.pr p,cons⟩:=by unfold obl Cb;rw[d];intro b w hp c f;obtain⟨v,a,e,h1,h2,h3⟩:=h b w hp c f;rw[e];exact⟨h1,h2,h3⟩
end
section
variable {P:Program} {w:World}
theorem Fe{a:Option Addr}{c k:Nat}(m:P.underlying t=some (.slice e))(b:BS P e z bytes)(l:k<=c):(Instr.sliceAt t (.slice a n c) none (some (.int .i64 k)) none).run P w=.ok (.slice a k c) w:=by (obtain⟨i,j,o,d,g⟩:=nR b;have f:(if c=0 then a else a.map (fun x=>x.add 0))=a:=by split;{rfl};cases a<;>simp[Addr.add]);(have h0:(0:Int)<=k:=by omega);(have h1:(k:Int)<=c:=by omega);simp[Instr.sliceAt,Instr.slice,Instr.sliceBounds,Instr.sliceBound,iU m,asIntOf,sizeOf,typeInfo,j,l,f]
theorem Yd:Array.range 0=#[]:=by decide
theorem Pb(f:P.underlying t=some (.slice e))(a:BS P e z bytes):(Instr.buildSlice t 0 #[]).run P w=.ok (.slice (some ⟨w.heap.size,0,none⟩) 0 0) (w.alloc (.cells #[] e)):=by obtain⟨i,d,g,b,c⟩:=nR a;simp[Instr.buildSlice,iU f,sizeOf,typeInfo,d,Instr.fill,newRow,Yd]
end
section
variable {P:Program} {ops:Array Oper} {hs:List Hd} {a0:Act} {C:World->Prop} {i:Nat} {o:Oper}
theorem U0(d:o.guard=none)(f:o.op=.buildSlice t 0 #[])(j:P.underlying t=some (.slice e))(a:BS P e z bytes)(c:∀w,C w->base<=w.heap.size):obl P C ops hs a0 i o ⟨false,.pr (fun v k=>∃g,v=.slice (some ⟨g,0,none⟩) 0 0/\Own k base e (some ⟨g,0,none⟩) 0 0 []),cons⟩ := AO d fun m w hp b l=>by refine⟨_,_,?_,(Ext.refl w).alloc (.cells #[] e),w.heap.size,rfl,AC w base e #[] 0 rfl (c w b) (by omega)⟩;simp[execOp,f,Pb j a]
theorem Wv{m N:Nat}(M:o.guard=none)(G:o.op=.call {callee := .builtin .append,args:=#[s,x],argTypes:=#[t,t]})(Q:P.underlying t=some (.slice e))(d:BS P e z bytes)(B:z.cells.size=1)(h1:∀u∈news,u.oneCell'=true)(K:n+m=N)(h63:N<=maxLen)(b:N*bytes<=140737488355328)(y:xs++news=ys)(L:∀w,C w->base<=w.heap.size)(h:∀g w,Dy g->C w->Cl ops hs a0 o g w [s,x]->∃a c A l,g s=.slice a n c/\Own w base e a n c xs/\g x=.slice A m l/\Sl w A m l news /\ ∀f,w.grownBy f (blk a)->C f/\GB ops hs i o w f (List.range hs.length)):obl P C ops hs a0 i o ⟨true,.pr (fun v T=>∃D E,v=.slice D N E/\Own T base e D N E ys),cons⟩ := Wu M fun g w hp F H=>by rw[G]at H;obtain⟨a,c,A,l,p,j,r,q,O⟩:=h g w hp F H;subst K;subst y;obtain⟨I,J,f,k,h2,h3,_⟩:=Q8 (P:=P) (ty:=o.type) Q d B j q h1 h63 b (L w F);obtain⟨R,S⟩:=O f h3;refine⟨_,f,?_,R,S,I,J,rfl,h2⟩;unfold execOp;simp only[G,resolve,invoke,builtin,ip,iM,gR,kB,j7,jL,p,r,k]
end
theorem Cw(xs:List Int):∀u∈xs.map (Value.int .i64),u.oneCell'=true:=ints_oneCell .i64 xs
end Go.Proofs.YtidknnkgdniopaaGreatDoor
namespace Go.Proofs.YtidknnkgdniopaaGreatDoor
open Go.Shelf
def Qs:Go.Shelf.Ren:=⟨fun|25=>192|n=>n,fun|22=>172|n=>n,fun|n=>n⟩
theorem Ye:Go.Proofs.Lays7.n25 Tryz.prog Qs:={mixed:=by kernel_rfl,f25:=Tryz.func192.trans (iT some (by kernel_rfl)),t22:=Tryz.underlying172,a22:=Tryz.isAgg172,z22:=Tryz.sizeOf172,v22:=Tryz.zeroValue172,i22:=by kernel_rfl}
def Qu:Go.Shelf.Ren:=⟨fun|26=>194|n=>n,fun|22=>172|n=>n,fun|n=>n⟩
theorem Yf:Go.Proofs.Lays7.n26 Tryz.prog Qu:={mixed:=by kernel_rfl,f26:=Tryz.func194.trans (iT some (by kernel_rfl)),t22:=Tryz.underlying172,a22:=Tryz.isAgg172,z22:=Tryz.sizeOf172,v22:=Tryz.zeroValue172,i22:=by kernel_rfl}
def Qv:Go.Shelf.Ren:=⟨fun|264=>191|n=>n,fun|53=>172|46=>124|n=>n,fun|n=>n⟩
theorem Yh:Go.Proofs.Lays.n264 Tryz.prog Qv:={mixed:=by kernel_rfl,f264:=Tryz.func191.trans (iT some (by kernel_rfl)),t46:=Tryz.underlying124,a46:=Tryz.isAgg124,z46:=Tryz.sizeOf124,v46:=Tryz.zeroValue124,t53:=Tryz.underlying172,a53:=Tryz.isAgg172,z53:=Tryz.sizeOf172,v53:=Tryz.zeroValue172}
def Tj:Go.Shelf.Ren:=⟨fun|134=>200|129=>143|n=>n,fun|53=>172|3=>3|4=>4|46=>124|5=>5|9=>9|n=>n,fun|n=>n⟩
theorem Za:Go.Proofs.Lays.n134 Tryz.prog Tj:={mixed:=by kernel_rfl,f129:=Tryz.func143.trans (iT some (by kernel_rfl)),f134:=Tryz.func200.trans (iT some (by kernel_rfl)),t3:=Tryz.underlying3,a3:=Tryz.isAgg3,z3:=Tryz.sizeOf3,v3:=Tryz.zeroValue3,t4:=Tryz.underlying4,a4:=Tryz.isAgg4,z4:=Tryz.sizeOf4,v4:=Tryz.zeroValue4,t5:=Tryz.underlying5,a5:=Tryz.isAgg5,z5:=Tryz.sizeOf5,v5:=Tryz.zeroValue5,t9:=Tryz.underlying9,a9:=Tryz.isAgg9,z9:=Tryz.sizeOf9,v9:=Tryz.zeroValue9,t46:=Tryz.underlying124,a46:=Tryz.isAgg124,z46:=Tryz.sizeOf124,v46:=Tryz.zeroValue124,t53:=Tryz.underlying172,a53:=Tryz.isAgg172,z53:=Tryz.sizeOf172,v53:=Tryz.zeroValue172}
def Qw:Go.Shelf.Ren:=⟨fun|129=>143|n=>n,fun|53=>172|3=>3|4=>4|46=>124|5=>5|9=>9|n=>n,fun|n=>n⟩
theorem Yi:Go.Proofs.Lays.n129 Tryz.prog Qw:={mixed:=by kernel_rfl,f129:=Tryz.func143.trans (iT some (by kernel_rfl)),t3:=Tryz.underlying3,a3:=Tryz.isAgg3,z3:=Tryz.sizeOf3,v3:=Tryz.zeroValue3,t4:=Tryz.underlying4,a4:=Tryz.isAgg4,z4:=Tryz.sizeOf4,v4:=Tryz.zeroValue4,t5:=Tryz.underlying5,a5:=Tryz.isAgg5,z5:=Tryz.sizeOf5,v5:=Tryz.zeroValue5,t9:=Tryz.underlying9,a9:=Tryz.isAgg9,z9:=Tryz.sizeOf9,v9:=Tryz.zeroValue9,t46:=Tryz.underlying124,a46:=Tryz.isAgg124,z46:=Tryz.sizeOf124,v46:=Tryz.zeroValue124,t53:=Tryz.underlying172,a53:=Tryz.isAgg172,z53:=Tryz.sizeOf172,v53:=Tryz.zeroValue172}
end Go.Proofs.YtidknnkgdniopaaGreatDoor
namespace Go.Proofs.YtidknnkgdniopaaGreatDoor
open Tryz Go Go.RowKit
variable {xs:List Nat} {B b b' c n v x:Nat} {a:Option Addr} {w w':World}
theorem AM:BS prog 172 (.int .u64 0) 8:=by unfold BS;kernel_rfl
theorem Cp(x y c:Nat)(a:c<=1)(w:World):(callFunc 192 #[.int .u64 x,.int .u64 y,.int .u64 c]).run prog w=.ok (.value (.tuple #[.int .u64 (((x+y+c)%18446744073709551616:Nat):Int),.int .u64 (((x+y+c)/18446744073709551616:Nat):Int)])) w:=Any7.bits_Add64 Ye x y c a w
theorem C6(x y c:Nat)(a:c<=1)(w:World):(callFunc 194 #[.int .u64 x,.int .u64 y,.int .u64 c]).run prog w=.ok (.value (.tuple #[.int .u64 (((x+18446744073709551616-y-c)%18446744073709551616:Nat):Int),.int .u64 ((if x<y+c then 1 else 0:Nat):Int)])) w:=Any7.bits_Sub64 Yf x y c a w
theorem BE(g:SlN .u64 w a n c xs):Calls prog 118 #[.slice a n c] w fun e A=>∃m,e=.returned (.slice a m c)/\w=A/\m<=n/\W.trim xs=xs.take m:=by have q:=gE g.len;have t:=g.le;have p:=g.cap;go_enter func118,ntmps118;go_wp2;go_loop[3] (fun v=>∃k:Nat,k<=n/\v=.int .i64 k/\Hid (W.trim xs=W.trimTo xs k)) (fun v=>(intOf v).toNat);(case atStart=>exact⟨n,lrf _,rfl,gE (by unfold W.trim;rw[q.out])⟩);case round=>obtain⟨k,C,rfl,i⟩:=hrel;have x:=fun B:World=>Fe (P:=prog) (w:=B) (a:=a) (n:=n) underlying70 AM (k:=k) (c:=c) (by omega);cases k with|zero=>{go_wp2;go_ret;exact⟨0,rfl,rfl,by omega,by rw[i.out];rfl⟩}|succ k=>(obtain⟨b,o,rfl,l⟩:=g.at (j:=k) (by omega);have r:=l k (by omega);have D:IntKind.i64.wrap ((k:Int)+1-1)=k:=by rw[oK];exact gJ _ (by omega));have z:IntKind.i64.wrap (k:Int)=k:=gJ _ (by omega);by_cases f:xs.getD k 0=0;{(have d:Hid (W.trim xs=W.trimTo xs k):=by show _=_;rw[i.out];exact gX f);rw[f]at r;clear f l;go_wp2;go_round;(case rel=>exact⟨k,by omega,rfl,d⟩);case measure=>simp[intOf]};(have d:Hid (W.trim xs=xs.take (k+1)):=by show _=_;rw[i.out];exact gQ f);(have s:(((xs.getD k 0:Nat):Int)==0)=false:=by simpa using f);generalize xs.getD k 0=y at*;clear f l;go_wp2;go_ret;exact⟨k+1,rfl,rfl,by omega,d.out⟩
theorem B0{m:Nat}(g:SlN .u64 w a n c xs)(d:m<=n)(e:W.trim xs=xs.take m)(b:W.bnd 18446744073709551616 xs)(f:W.val 18446744073709551616 xs=v):SlN .u64 w a m c (W.trim xs)/\Num 18446744073709551616 (W.trim xs) v := ⟨by rw[e];exact g.upto d,Num.trim b f⟩
def Src(w:World)(S:Nat->Prop)(a:Option Addr):Prop:=∀g,blk a=some g->w.heap.size<=g\/S g
def Gv(b:Nat)(S:Nat->Prop)(a:Option Addr)(n:Nat):Prop:=0<n->∀g,blk a=some g->b<=g\/S g
theorem Gv.of{S S':Nat->Prop}(h:Gv b S a n)(d:b'<=b)(c:∀g,S g->b'<=g\/S' g):Gv b' S' a n:=fun h0 g e=>(h h0 g e).elim (fun h=>Or.inl (gH d h)) (c g)
def Pc(k:IntKind)(B:Nat)(w:World)(S:Nat->Prop)(v:Nat)(e:Ending)(w':World):Prop:=∃a n c xs,e=.returned (.slice a n c)/\Ext w w'/\SlN k w' a n c xs/\Num B xs v/\Src w S a
theorem Pc.plain{k:IntKind}{S:Nat->Prop}{e:Ending}(h:Pc k B w S v e w'):Lm k B w v e w':=by obtain⟨a,n,c,b,h1,h2,h3,h4,_⟩:=h;exact⟨a,n,c,b,h1,h2,h3,h4⟩
theorem GE(b:x<18446744073709551616):Calls prog 133 #[.int .u64 x] w (Pc .u64 18446744073709551616 w (fun _=>False) x):=by by_cases h0:x=0;{subst h0;go_enter func133,ntmps133;go_wp2;go_ret;exact⟨none,0,0,[],rfl,Ext.refl w,SlN.nil _ _,Num.nil _,fun _ h=>by cases h⟩};(have c:((x:Int)==0)=false:=by simpa using h0);go_enter func133,ntmps133;go_wp2;go_ret;refine⟨_,1,1,[x],rfl,(Ext.refl w).alloc _,(AC w w.heap.size 172 #[.int .u64 x] 1 rfl (lrf _) (by omega)).sl,⟨?_,W.nrm_single h0,by simp[W.val]⟩,fun g h=>Or.inl (by cases h;exact lrf _)⟩;intro y a;simp only[gK]at a;subst a;exact b
theorem Hp(a:x<18446744073709551616):Calls prog 133 #[.int .u64 x] w (Lm .u64 18446744073709551616 w x) := (GE a).mono fun _ _ h=>h.plain
theorem GR(x:Int)(w:World):Calls prog 193 #[.int .u64 x] w fun e a=>e=.returned (.bool false)/\w=a:=by (have h:(x != x)=false:=by simp);go_enter func193,ntmps193;go_wp2;go_ret;exact⟨rfl,rfl⟩
theorem GT(x:Int)(w:World):Calls prog 144 #[.int .i64 x] w fun e a=>e=.returned (.bool false)/\w=a:=by (have h:(x != x)=false:=by simp);go_enter func144,ntmps144;go_wp2;go_ret;exact⟨rfl,rfl⟩
def A5(x y:Int):Int:=if x<y then -1 else if y<x then 1 else 0
theorem Nq(x y:Int)(w:World):Calls prog 161 #[.int .u64 x,.int .u64 y] w fun e a=>e=.returned (.int .i64 (A5 x y))/\w=a:=by by_cases h1:x<y;{(have H:Hid (A5 x y=-1):=by show _=_;simp[A5,h1]);go_enter func161,ntmps161;go_wp2_with(go_at_call 193;refine(GR _ _).mono ?_;rintro e w1 ⟨rfl,rfl⟩);go_ret;exact⟨Dz H.out,rfl⟩};by_cases h2:y<x;{(have H:Hid (A5 x y=1):=by show _=_;simp[A5,h1,h2]);go_enter func161,ntmps161;go_wp2_with(go_at_call 193;refine(GR _ _).mono ?_;rintro e w1 ⟨rfl,rfl⟩);go_ret;exact⟨Dz H.out,rfl⟩};(have H:Hid (A5 x y=0):=by show _=_;simp[A5,h1,h2]);go_enter func161,ntmps161;go_wp2_with(go_at_call 193;refine(GR _ _).mono ?_;rintro e w1 ⟨rfl,rfl⟩);go_ret;exact⟨Dz H.out,rfl⟩
theorem Nr(x y:Int)(w:World):Calls prog 101 #[.int .i64 x,.int .i64 y] w fun e a=>e=.returned (.int .i64 (A5 x y))/\w=a:=by by_cases h1:x<y;{(have H:Hid (A5 x y=-1):=by show _=_;simp[A5,h1]);go_enter func101,ntmps101;go_wp2_with(go_at_call 144;refine(GT _ _).mono ?_;rintro e w1 ⟨rfl,rfl⟩);go_ret;exact⟨Dz H.out,rfl⟩};by_cases h2:y<x;{(have H:Hid (A5 x y=1):=by show _=_;simp[A5,h1,h2]);go_enter func101,ntmps101;go_wp2_with(go_at_call 144;refine(GT _ _).mono ?_;rintro e w1 ⟨rfl,rfl⟩);go_ret;exact⟨Dz H.out,rfl⟩};(have H:Hid (A5 x y=0):=by show _=_;simp[A5,h1,h2]);go_enter func101,ntmps101;go_wp2_with(go_at_call 144;refine(GT _ _).mono ?_;rintro e w1 ⟨rfl,rfl⟩);go_ret;exact⟨Dz H.out,rfl⟩
end Go.Proofs.YtidknnkgdniopaaGreatDoor
