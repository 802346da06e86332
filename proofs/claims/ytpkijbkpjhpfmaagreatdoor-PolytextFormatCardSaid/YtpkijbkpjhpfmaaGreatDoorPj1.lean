/- Part Pj1. -/
import Derived.WalkKit
import Derived.Lib.Hide
import Derived.Deep.Draws
import Derived.Maps.AppendAt
import Derived.Deep.AppendLies
import Derived.RegionTactic
import Derived.OwnWalk
import Derived.Laws.Rows
import Derived.Laws.Tables
import Derived.Laws.CopyRow
import Derived.Laws.IdiomCopy
import Derived.Lib.ConvBytes
import Derived.Laws.IdiomStrings
import Derived.Test.YtpkijbkpjhpfmaaGreatDoorProg
import Derived.Shelf.RegionOpenPlain
import Derived.Lib.Bytealg
set_option linter.all false
set_option maxRecDepth 100000
set_option maxHeartbeats 100000000
namespace Go.Proofs.YtpkijbkpjhpfmaaGreatDoor
open Go Go.RowKit
variable {f:Act} {ops:Array Oper} {va:Array Value} {b ev:Bool} {T s:ByteArray} {Q:Exit->Act->World->Prop} {rest:List Oper} {l:List UInt8} {cs cur news vs xs:List Value} {base base' bytes cx g k m n nc nn:Nat} {o:Oper} {d x xx y yy:Operand} {A a na:Option Addr} {row:Option Nat} {P:Program} {dT dst e sT src t tt ty:TypeId} {v z:Value} {w w':World}
universe u
def gF:=@Lib.hid
def gG:=@List.getElem?_eq_getElem
def gJ:=@Option.some.injEq
def gK:=@List.take_of_length_le
def gN:=@if_neg
def gO:=@List.eq_nil_of_length_eq_zero
def gS:=@if_pos
def gT:=@Result.andThen_ok
def gV:=@Nat.eq_zero_or_pos
def gW:=@Nat.zero_le
def gY:=@Value.slice.injEq
def iC:=@List.getElem?_eq_none
def iD:=@decide_eq_true_eq
def iE:=@Nat.zero_add
def iI:=@List.mem_cons
def iQ:=@Option.getD_some
def iT:=@Sem.run_pure
def iW:=@Nat.add_zero
def iZ:=@List.mem_map
def ig:=@List.length_cons
def io:=@Sem.run_bind
def ir:=@Nat.lt_or_ge
def j5:=@Array.getElem?_eq_none
def j9:=@run_underlying
def jH:=@Nat.min_eq_left
def jJ:=@List.drop_succ_cons
def jO:=@Option.map_some
def jP:=@Nat.mul_one
def jQ:=@Nat.add_assoc
def jR:=@World.cell?_of_block
def jS:=@List.not_mem_nil
def jY:=@Array.getElem?_modify
def ja:=@List.drop_zero
def je:=@World.block_lt_of_cell?
def jg:=@ByteArray.toList_eq
def jh:=@wpList_plain
def jx:=@List.map_cons
def k8:=@Bool.false_eq_true
def kE:=@List.length_nil
def kO:=@Bool.or_eq_true
def kW:=@if_true
def kY:=@List.set_cons_succ
def l9:=@List.map_nil
def lC:=@List.setIfInBounds_toArray
def lN:=@List.set_cons_zero
def lQ:=@Bool.eq_iff_iff
def lU:=@if_false
def lZ:=@List.map_toArray
def ld:=@List.length_map
def mD:=@List.tail_cons
def mG:=@info_parts
def mT:=@decide_false
def mc:=@decide_true
def mq:=@or_false
def nF:=@World.grownBy.refl
def nw:=@heap_alloc_new
def oI:=@World.ownsRow_lit
def oL:=@Array.ext'
def ox:=@Nat.lt_irrefl
theorem lq{b:Type u}{a:b}{l:List b}:(a::l).length=l.length+1:=ig
theorem lw{a:Type u}:([]:List a).length=0:=kE
theorem lz{b:Type u}{a:b}{l:List b}{i:Nat}:(a::l).drop (i+1)=l.drop i:=jJ
theorem lj{a:Type u}{l:List a}:l.drop 0=l:=ja
theorem lk{b:Type u}{a:b}{l:List b}{i:Nat}:l.toArray.setIfInBounds i a=(l.set i a).toArray:=lC _ _ _
theorem lA{b:Type u}{x a:b}{l:List b}{i:Nat}:(x::l).set (i+1) a=x::l.set i a:=kY
theorem lB{b:Type u}{x a:b}{l:List b}:(x::l).set 0 a=a::l:=lN
theorem gqq{a:Type u}{l:List a}{i:Nat}{d:a}:l.getD i d=l[i]?.getD d:=List.getD_eq_getElem?_getD
theorem lrf(n:Nat):n<=n:=Nat.le_refl n
def Ext(w w':World):Prop:=Below w.heap.size w w'
theorem Ext.refl(w:World):Ext w w:=Below.refl _ _
theorem Ext.trans{a b c:World}(h:Ext a b)(k:Ext b c):Ext a c:=Below.trans h (Below.mono k h.size)
theorem Ext.size{w a:World}(h:Ext w a):w.heap.size<=a.heap.size:=Below.size h
theorem Ext.drewN{w a:World}(h:Ext w a)(n:Nat):Ext w (a.drewN n):=⟨h.os,h.tape,h.output,h.size,h.block⟩
theorem Ext.drew{w a:World}(h:Ext w a):Ext w a.drew:=⟨h.os,h.tape,h.output,h.size,h.block⟩
theorem Ext.alloc{w a:World}(h:Ext w a)(o:Obj):Ext w (a.alloc o):=Below.alloc h h.size o
theorem Ext.setCell{w a:World}(h:Ext w a){p:Addr}(hp:w.heap.size<=p.block)(u:Value):Ext w (a.setCell p u):=Below.setCell h hp u
theorem Ext.grown{w b a:World}{row:Option Nat}(h:Ext w b)(c:b.grownBy a row)(d:∀k,row=some k->w.heap.size<=k):Ext w a := Below.grown h c h.size d
theorem Ext.block{w a:World}(h:Ext w a){k:Nat}(b:k<w.heap.size):a.heap[k]?=w.heap[k]?:=Below.block h k b
theorem Ext.cell{w a:World}(h:Ext w a){p:Addr}{v:Value}(hp:w.cell? p=some v):a.cell? p=some v:=by rw[jR (w:=w) (h.block (je w p hp)),hp]
def Qt(w w':World):Prop:=∃n,w'=w.drewN n
theorem Qt.refl(w:World):Qt w w:=⟨0,rfl⟩
theorem Qt.drewN{w a:World}(h:Qt w a)(n:Nat):Qt w (a.drewN n):=by obtain⟨m,rfl⟩:=h;exact⟨m+n,by rw[World.drewN_drewN]⟩
theorem Qt.drew{w a:World}(h:Qt w a):Qt w a.drew:=h.drewN 1
theorem Qt.trans{a b c:World}(h:Qt a b)(k:Qt b c):Qt a c:=by obtain⟨m,rfl⟩:=k;exact h.drewN m
theorem Qt.ext(h:Qt w w'):Ext w w':=by obtain⟨m,rfl⟩:=h;exact(Ext.refl w).drewN m
theorem CC{a:Bool}(h:b=a):Ending.returned (.bool a)=.returned (.bool b):=by rw[h]
theorem Fm{k:IntKind}{a b:Int}(h:b=a):Ending.returned (.int k a)=.returned (.int k b):=by rw[h]
structure Sl(w:World)(a:Option Addr)(n c:Nat)(cs:List Value):Prop where
 len:cs.length=n
 cap:n<=c
 max:c<=maxLen
 rd:0<n->∃b off,a=some ⟨b,off,none⟩/\∀i,i<n->w.cell? ⟨b,off+i,none⟩=some (cs.getD i undef)
theorem Sl.ext{c:Nat}(h:Sl w a n c cs)(e:Ext w w'):Sl w' a n c cs := ⟨h.len,h.cap,h.max,fun h0=>let ⟨b,off,ha,hc⟩:=h.rd h0;⟨b,off,ha,fun i d=>e.cell (hc i d)⟩⟩
theorem Sl.nil(w:World):Sl w none 0 0 []:=⟨rfl,lrf _,gW _,fun h=>absurd h (ox _)⟩
def SlI(w:World)(a:Option Addr)(n c:Nat)(xs:List Int):Prop:=Sl w a n c (xs.map (Value.int .i64))
theorem SlI.ext{w b:World}{a:Option Addr}{n c:Nat}{xs:List Int}(h:SlI w a n c xs)(e:Ext w b):SlI b a n c xs:=Sl.ext h e
theorem SlI.len{w:World}{a:Option Addr}{n c:Nat}{xs:List Int}(h:SlI w a n c xs):xs.length=n:=by have:=Sl.len h;simpa using this
theorem SlI.le{c:Nat}{xs:List Int}(h:SlI w a n c xs):n<=9223372036854775807:=by have h1:=Sl.cap h;have h2:=Sl.max h;unfold maxLen at h2;omega
theorem SlI.at{c:Nat}{xs:List Int}(h:SlI w a n c xs){k:Nat}(l:k<n):∃b d,a=some ⟨b,d,none⟩/\∀i,i<n->w.cell? ⟨b,d+i,none⟩=some (.int .i64 (xs.getD i 0)):=by (obtain⟨b,d,f,g⟩:=Sl.rd h (by omega);refine⟨b,d,f,fun i j=>?_⟩;rw[g i j];have m:=h.len;have e:i<xs.length:=by omega);simp[e]
theorem Sl.of_owns{v c:Nat}(h:w.ownsRow base e 1 (.slice a n c) v cs):Sl w a n c cs:=by obtain⟨j,h⟩:=h;rcases h with⟨d,s⟩|⟨g,l,b,d,x,o,k,r,y,t⟩;{(simp only[gY]at d;obtain⟨rfl,rfl,rfl⟩:=d;subst s;have:cs=[]:=by simpa using j);subst this;exact Sl.nil w};(simp only[gY]at d;obtain⟨rfl,rfl,rfl⟩:=d;refine⟨by simpa using j,k,r,fun _=>⟨g,0,rfl,fun i p=>?_⟩⟩;have q:cs.length=n:=by simpa using j);(have m:cs.getD i undef=b.toList.getD i undef:=by rw[<-t];simp[p]);(have f:i<b.size:=by omega);rw[m];simp[World.cell?,o,f]
theorem Im{size:Nat}(h:w.ownsRow base e size v n xs)(k:Ext w w'):w'.ownsRow base e size v n xs:=by obtain⟨h1,h2⟩:=h;refine⟨h1,?_⟩;rcases h2 with h2|⟨g,a,b,i,f,d,r⟩;{exact Or.inl h2};(refine Or.inr ⟨g,a,b,i,f,?_,r⟩;have c:g<w.heap.size:=by rcases ir g w.heap.size with h|h;{exact h};simp[j5 h]at d);rw[k.block c,d]
namespace Pt
def isL(c:UInt8):Bool:=(decide (97<=c.toNat) && decide (c.toNat<=122)) || (decide (65<=c.toNat) && decide (c.toNat<=90))
def isD(c:UInt8):Bool:=decide (48<=c.toNat) && decide (c.toNat<=57)
def isW(c:UInt8):Bool:=isL c || isD c || decide (c.toNat=95)
def isSp(c:UInt8):Bool:=decide (c.toNat=32) || decide (c.toNat=9) || decide (c.toNat=10) || decide (c.toNat=13)
def isP(c:UInt8):Bool:=decide (c.toNat=43) || decide (c.toNat=45) || decide (c.toNat=42) || decide (c.toNat=47) || decide (c.toNat=94) || decide (c.toNat=40) || decide (c.toNat=41)
def wlen(l:List UInt8):Nat:=(l.takeWhile isW).length
def dlen(l:List UInt8):Nat:=(l.takeWhile isD).length
def frac:List UInt8->Nat
| []=>0
| c::r=>if c.toNat=46/\0<dlen r then 1+dlen r else 0
def kl:List UInt8->Nat×Nat
| []=>(0,0)
| c::r=>if isD c then(110,dlen (c::r)+frac ((c::r).drop (dlen (c::r))))else if isL c then(119,wlen (c::r))else if isP c then(c.toNat,1)else(63,0)
def skp(r:List UInt8):List UInt8:=r.dropWhile isSp
def kd(r:List UInt8):Nat:=(kl (skp r)).1
def tk(r:List UInt8):List UInt8:=(skp r).take (kl (skp r)).2
def nx(r:List UInt8):List UInt8:=(skp r).drop (kl (skp r)).2
def vName(s:List UInt8):Bool:=decide (s≠[]) && decide (s.length<=16) && (match s with|[]=>false|c::_=>isL c) && decide (wlen s=s.length)
def vNames(l:List (List UInt8)):Bool:=decide (l.length<=6) && decide (∀i,i<l.length->vName (l.getD i [])=true/\l.getD i []∉l.take i)
end Pt
def Own(w:World)(base:Nat)(e:TypeId)(a:Option Addr)(n c:Nat)(cs:List Value):Prop:=w.ownsRow base e 1 (.slice a n c) n cs
def BS(P:Program)(e:TypeId)(z:Value)(bytes:Nat):Prop :=
 (P.info? e).map (fun i=>(i.zero,i.size,i.bytes))=some (some z,1,bytes)
def blk(a:Option Addr):Option Nat:=a.map (·.block)
section
variable {w w':World} {base:Nat} {e:TypeId} {a:Option Addr} {n c:Nat} {cs:List Value}
theorem Own.sl(h:Own w base e a n c cs):Sl w a n c cs:=Sl.of_owns h
theorem Own.ext(h:Own w base e a n c cs)(k:Ext w w'):Own w' base e a n c cs:=Im h k
theorem Own.len(h:Own w base e a n c cs):cs.length=n:=h.sl.len
theorem Own.cap(h:Own w base e a n c cs):n<=c:=h.sl.cap
theorem Own.nil(w:World)(base:Nat)(e:TypeId):Own w base e none 0 0 []:=World.ownsRow_nil w base e 1
theorem Own.lt(h:Own w base e a n c cs){k:Nat}(d:blk a=some k):base<=k/\k<w.heap.size:=by refine World.ownsRow.lt h k ?_;cases a with|none=>{simp[blk]at d}|some b=>simpa[blk,Value.ownBlock]using d
theorem Own.mono(h:Own w base e a n c cs)(i:base'<=base):Own w base' e a n c cs:=by obtain⟨h1,h2⟩:=h;refine⟨h1,?_⟩;rcases h2 with h2|⟨g,b,d,f,j,r⟩;{exact Or.inl h2};exact Or.inr ⟨g,b,d,f,by omega,r⟩
theorem Own.kept{row:Option Nat}(h:Own w base e a n c cs)(f:w.grownBy w' row)(d:blk a=none\/blk a≠row):Own w' base e a n c cs:=by refine World.ownsRow.kept h f ?_;cases a with|none=>{left;rfl}|some b=>right;rcases d with h|h;{simp[blk]at h};simpa[blk,Value.ownBlock]using h
theorem Own.drewN(h:Own w base e a n c cs)(k:Nat):Own (w.drewN k) base e a n c cs:=h
theorem Own.alloc(h:Own w base e a n c cs)(o:Obj):Own (w.alloc o) base e a n c cs:=World.ownsRow.alloc h o
theorem Own.place(h:Own w base e a n c cs)(k:0<n):∃g,a=some ⟨g,0,none⟩/\base<=g/\g<w.heap.size:=by rcases h.2 with⟨_,h0⟩|⟨g,d,f,b,i,j,_⟩;{omega};simp only[gY]at b;refine⟨g,b.1,i,?_⟩;rcases ir g w.heap.size with h|h;{exact h};simp[j5 h]at j
end
section
variable {w:World} {base:Nat} {e:TypeId} {g n c:Nat} {cs:List Value}
theorem Own.cellAt(h:Own w base e (some ⟨g,0,none⟩) n c cs){j:Nat}(a:j<n):w.cell? ⟨g,j,none⟩=some (cs.getD j undef):=by (have h1:=World.ownsRow.cellAt h j (by omega);have h2:j<cs.length:=by have:=h.len;omega);rw[h1];simp[h2]
theorem Own.frozenAt(h:Own w base e (some ⟨g,0,none⟩) n c cs)(j:Nat):w.frozen? ⟨g,j,none⟩=false:=World.ownsRow.frozenAt h j
theorem Own.stored(h:Own w base e (some ⟨g,0,none⟩) n c cs)(j:Nat)(u:Value):Own (w.setCell ⟨g,j,none⟩ u) base e (some ⟨g,0,none⟩) n c (cs.set j u):=(World.ownsRow.stored h j u).1
end
theorem AX(w:World)(base:Nat)(e:TypeId)(cs:Array Value)(n:Nat)(b:cs.size=n)(a:base<=w.heap.size)(c:n<=1000000):Own (w.alloc (.cells cs e)) base e (some ⟨w.heap.size,0,none⟩) n n cs.toList:=by subst b;exact oI w cs cs.size a (by unfold maxLen;omega) (by omega)
theorem Own.drew{w:World}{base:Nat}{e:TypeId}{a:Option Addr}{n c:Nat}{cs:List Value}(h:Own w base e a n c cs):Own w.drew base e a n c cs:=h
theorem Sl.drew{w:World}{a:Option Addr}{n c:Nat}{cs:List Value}(h:Sl w a n c cs):Sl w.drew a n c cs:=h.ext (Ext.refl w).drew
theorem Sl.alloc{w:World}{a:Option Addr}{n c:Nat}{cs:List Value}(h:Sl w a n c cs)(o:Obj):Sl (w.alloc o) a n c cs:=h.ext ((Ext.refl w).alloc o)
theorem Sl.upto{c:Nat}(h:Sl w a n c cs){k:Nat}(j:k<=n):Sl w a k c (cs.take k):=by refine⟨by have:=h.len;simp;omega,by have:=h.cap;omega,h.max,fun h0=>?_⟩;obtain⟨b,d,e,f⟩:=h.rd (by omega);refine⟨b,d,e,fun i g=>?_⟩;rw[f i (by omega)];simp[g]
theorem Sl.from{c:Nat}(h:Sl w a n c cs){k:Nat}(l:k<=n):Sl w (if c=k then a else a.map (fun x=>x.add k)) (n-k) (c-k) (cs.drop k):=by refine⟨by have:=h.len;simp;omega,by have:=h.cap;omega,by have:=h.max;omega,fun h0=>?_⟩;obtain⟨b,d,f,g⟩:=h.rd (by omega);subst f;have e:=h.cap;rw[gN (by omega)];refine⟨b,d+k,?_,fun i j=>?_⟩;{simp only[jO,Addr.add];by_cases h0:k=0<;>simp[h0]};rw[jQ,g (k+i) (by omega)];simp
theorem At(w:World)(g j:Nat)(u:Value):w.grownBy (w.setCell ⟨g,j,none⟩ u) (some g) := ⟨rfl,rfl,rfl,by simp[World.setCell],fun k _ a=>by simp only[World.setCell,jY];rw[gN (by rintro rfl;exact a rfl)]⟩
def Arr(w:World)(g:Nat)(t:TypeId)(cs:List Value):Prop:=w.heap[g]?=some (.cells cs.toArray t (0,0))
section
variable {w w':World} {g:Nat} {t:TypeId} {cs:List Value}
theorem Arr.lt(h:Arr w g t cs):g<w.heap.size:=by rcases ir g w.heap.size with b|a;{exact b};unfold Arr at h;rw[j5 a]at h;cases h
theorem Arr.cell(h:Arr w g t cs){i:Nat}(hi:i<cs.length):w.cell? ⟨g,i,none⟩=some (cs.getD i undef):=by unfold Arr at h;simp[World.cell?,h,hi]
theorem Arr.c(h:Arr w g t cs)(i:Nat){v:Value}(a:cs[i]?=some v):w.cell? ⟨g,i,none⟩=some v:=by rw[h.cell (i:=i) (by rcases ir i cs.length with h|h;exact h;simp[iC h]at a),gqq,a];rfl
theorem Arr.frozen(h:Arr w g t cs)(i:Nat):w.frozen? ⟨g,i,none⟩=false:=by unfold Arr at h;simp[World.frozen?,h]
theorem Arr.new(w:World)(t:TypeId)(cs:List Value):Arr (w.alloc (.cells cs.toArray t)) w.heap.size t cs:=nw w _
theorem Arr.set(h:Arr w g t cs)(i:Nat)(u:Value):Arr (w.setCell ⟨g,i,none⟩ u) g t (cs.set i u):=by unfold Arr at h|-;simp[World.setCell,jY,h]
theorem Arr.sl(h:Arr w g t cs){k:Nat}(b:k<=cs.length)(c:cs.length<=maxLen):Sl w (some ⟨g,0,none⟩) k cs.length (cs.take k):=by refine⟨by simp;omega,b,c,fun _=>⟨g,0,rfl,fun i a=>?_⟩⟩;rw[iE,h.cell (by omega)];simp[a]
theorem Arr.ext(h:Arr w g t cs)(k:Ext w w'):Arr w' g t cs:=(k.block h.lt).trans h
theorem Arr.kept(h:Arr w g t cs)(a:w.grownBy w' row)(b:some g≠row):Arr w' g t cs:=(a.block g h.lt b).trans h
theorem Arr.drewN(h:Arr w g t cs)(n:Nat):Arr (w.drewN n) g t cs:=h
theorem Arr.alloc(h:Arr w g t cs)(o:Obj):Arr (w.alloc o) g t cs:=(Below.heap_alloc w o g h.lt).trans h
theorem Arr.far(h:Arr w g t cs){p:Addr}(hp:g≠p.block)(u:Value):Arr (w.setCell p u) g t cs:=(Below.heap_setCell w p u g hp).trans h
end
section
variable {P:Program} {w:World}
theorem Sv{c:Nat}(I:P.underlying t=some (.slice e))(v:BS P e z bytes)(J:z.cells.size=1)(d:Own w base e a n c xs)(f:Sl w A m cx news)(h1:∀u∈news,u.oneCell'=true)(h63:n+m<=maxLen)(k:(n+m)*bytes<=140737488355328)(s:base<=w.heap.size):∃C L y,(Builtin.append_ #[t,t] ty #[.slice a n c,.slice A m cx]).run P w=.ok (.slice C (n+m) L) y/\Own y base e C (n+m) L (xs++news) /\ w.grownBy y (blk a)/\(blk C=blk a\/blk C=some w.heap.size):=by (obtain⟨i,F,Q,x,E⟩:=mG v;have p:(Value.slice a n c).ownBlock=blk a:=by cases a<;>rfl);rcases A with _|K;{(have N:m=0:=by rcases gV m with h0|h0;{exact h0};obtain⟨b,o,h,_⟩:=f.rd h0;cases h);subst N;have O:news=[]:=gO f.len;subst O;refine⟨a,c,w,?_,by simpa using d,nF w _,.inl rfl⟩;rcases d.2 with⟨q,rfl⟩|⟨g,B,D,q,_,_,H,_⟩;{simp only[gY]at q;obtain⟨rfl,_,rfl⟩:=q;simp[Builtin.append_,j9 I,sizeOf,typeInfo,F,Builtin.lenOf,Builtin.firstCells]};simp only[gY]at q;obtain⟨rfl,_,rfl⟩:=q;simp[Builtin.append_,j9 I,sizeOf,typeInfo,F,Builtin.lenOf,Builtin.firstCells,H,storeCells]};(have l:∀j u,news[j]?=some u->w.cell? (K.add j)=some u:=by (intro j u hu;have R:j<news.length:=by rcases ir j news.length with h|h;{exact h};simp[iC h]at hu);(have G:j<m:=by have:=f.len;omega);(obtain⟨b,o,h,M⟩:=f.rd (by omega);injection h with h;subst h;have h2:=M j G;have h3:news.getD j undef=u:=by rw[gqq,hu];rfl);rw[h3]at h2;rw[<-h2];unfold Addr.add;by_cases h0:j=0<;>simp[h0]);obtain⟨S,y,r,h2,h3,_,h5⟩:=run_append_own_at (P:=P) w base t ty e i z 1 bytes I F Q x E J (by omega) (.slice a n c) n xs d K m cx news (by have:=f.len;omega) l h1 h63 k s;rcases h2.2 with⟨q,h0⟩|⟨g,B,D,q,_⟩;{subst q;refine⟨none,0,y,by rw[r,h0],?_,by rw[<-p];exact h3,by rw[<-p];exact h5⟩;unfold Own;rw[h0]at h2|-;exact h2};subst q;exact⟨_,B,y,r,h2,by rw[<-p];exact h3,by rw[<-p];exact h5⟩
theorem TV{K:Act->World->Prop}{s:Operand}(y:o.op=.call {callee := .builtin .append,args:=#[s,x],argTypes:=#[t,t]}){e:TypeId}{z:Value}{bytes base:Nat}{a:Option Addr}{n c:Nat}{xs:List Value}{A:Option Addr}{m v:Nat}{news:List Value}(C:P.underlying t=some (.slice e))(g:BS P e z bytes)(r:z.cells.size=1)(B:f.eval s=.slice a n c)(j:Own w base e a n c xs)(D:f.eval x=.slice A m v)(q:Sl w A m v news)(h1:∀u∈news,u.oneCell'=true)(h63:n+m<=maxLen)(b:(n+m)*bytes<=140737488355328)(d:base<=w.heap.size)(h:∀i p l,Own l base e i (n+m) p (xs++news)->w.grownBy l (blk a)->(blk i=blk a\/blk i=some w.heap.size)->K (f.put o.dst (.slice i (n+m) p)) l):o.wp P f w K Q:=by obtain⟨i,p,l,k,h2,h3,h4⟩:=Sv (P:=P) (ty:=o.type) C g r j q h1 h63 b d;unfold Oper.wp execOp;simp only[y,resolve,invoke,builtin,io,iT,gT,lZ,jx,l9,B,D,k];exact h i p l h2 h3 h4
theorem Cy{s:Operand}(p:o.guard=none)(B:o.op=.call {callee := .builtin .append,args:=#[s,x],argTypes:=#[t,t]}){e:TypeId}{z:Value}{bytes base:Nat}{a:Option Addr}{n c:Nat}{xs:List Value}{A:Option Addr}{m v:Nat}{news:List Value}(D:P.underlying t=some (.slice e))(g:BS P e z bytes)(r:z.cells.size=1)(C:f.eval s=.slice a n c)(j:Own w base e a n c xs)(E:f.eval x=.slice A m v)(q:Sl w A m v news)(h1:∀u∈news,u.oneCell'=true)(h63:n+m<=maxLen)(b:(n+m)*bytes<=140737488355328)(d:base<=w.heap.size)(h:∀i l k,Own k base e i (n+m) l (xs++news)->w.grownBy k (blk a)->(blk i=blk a\/blk i=some w.heap.size)->wpList P ops Q rest (f.put o.dst (.slice i (n+m) l)) k):wpList P ops Q (o::rest) f w := jh p fun _ y=>TV B D g r C j E q h1 h63 b d fun i l k h2 h3 h4=>y _ _ (h i l k h2 h3 h4)
theorem TW(k:P.underlying t=some (.slice e))(a:BS P e z bytes)(f:z.cells=#[z])(g:bytes*n<=281474976710656)(h63:n<=maxLen):∃c,(Instr.makeSlice t (.int .i64 n) (.int .i64 n)).run P w=.ok (.slice (some ⟨w.heap.size,0,none⟩) n n) c/\Own c w.heap.size e (some ⟨w.heap.size,0,none⟩) n n (List.replicate n z)/\Ext w c:=by obtain⟨i,j,l,b,d⟩:=mG a;obtain⟨c,h1,h2,h3⟩:=run_make_full (P:=P) w w.heap.size t e i z 1 k j l b .i64 .i64 n (by rw[d];exact g) h63 (lrf _);refine⟨c,h1,?_,(Ext.refl w).grown h3 (by simp)⟩;rw[jP,f,toList_madeCells_one]at h2;exact h2
theorem Dx{l c:Operand}(q:o.guard=none)(i:o.op=Op.makeSlice t l c){e:TypeId}{z:Value}{bytes n:Nat}(s:P.underlying t=some (.slice e))(a:BS P e z bytes)(j:z.cells=#[z])(r:f.eval l=.int .i64 n)(p:f.eval c=.int .i64 n)(m:bytes*n<=281474976710656)(h63:n<=maxLen)(k:∀d,Own d w.heap.size e (some ⟨w.heap.size,0,none⟩) n n (List.replicate n z)->Ext w d->wpList P ops Q rest (f.put o.dst (.slice (some ⟨w.heap.size,0,none⟩) n n)) d):wpList P ops Q (o::rest) f w:=by refine jh q fun K g=>?_;obtain⟨d,b,h2,h3⟩:=TW (P:=P) (w:=w) s a j m h63;unfold Oper.wp execOp;simp only[i,io,iT,gT,r,p,b,Oper.upon];exact g _ _ (k d h2 h3)
end
def Agg(P:Program)(ty:TypeId)(n:Nat):Prop :=
 (P.underlying ty).map (fun d=>match d with|.struct _|.array _ _=>true|_=>false)=some true/\(P.info? ty).map (·.size)=some n
theorem Agg.parts(h:Agg P ty n):∃d,P.underlying ty=some d/\(match d with|.struct _|.array _ _=>true|_=>false)=true/\(P.info? ty).map (·.size)=some n:=by obtain⟨h1,h2⟩:=h;cases hu:P.underlying ty with|none=>{rw[hu]at h1;cases h1}|some d=>rw[hu]at h1;exact⟨d,rfl,by simpa using h1,h2⟩
theorem BF(w:World)(g:Nat)(cs:Array Value):w.grownBy (w.setRow g cs) (some g):=by refine⟨rfl,rfl,rfl,by simp[World.setRow],fun k _ a=>?_⟩;simp only[World.setRow,jY];rw[gN (by rintro rfl;exact a rfl)]
theorem CD(h:Arr w g t cs)(vs:List Value):Arr (w.setRow g vs.toArray) g t vs:=by unfold Arr at h|-;simp[World.setRow,jY,h]
section
variable {P:Program} {w:World}
theorem LU(a:Agg P ty cs.length)(h:Arr w g t cs):(Instr.loadAt ty (.pointer (some ⟨g,0,none⟩))).run P w=.ok (.agg cs.toArray) w:=by obtain⟨d,hu,b,c⟩:=a.parts;have:=run_loadVar_row (P:=P) w g t ty cs.toArray (0,0) d h hu (by cases d<;>first|rfl|exact absurd b (by simp)) (by simpa using c);simp[Instr.loadAt,Instr.sureAddr,this]
theorem D3(a:Agg P ty vs.length)(h:Arr w g t cs)(c:cs.length=vs.length)(h1:∀v∈vs,v.oneCell'=true):(Instr.storeAt ty (.pointer (some ⟨g,0,none⟩)) (.agg vs.toArray)).run P w=.ok () (w.setRow g vs.toArray):=by obtain⟨d,hu,e,b⟩:=a.parts;have:=run_storeVar_row (P:=P) w g t ty cs.toArray vs.toArray h (by simpa using b) (by simpa using c) (by simpa using h1);simp[Instr.storeAt,Instr.sureAddr,this]
theorem Er(b:o.guard=none)(e:o.op=.load ty x){g:Nat}{t:TypeId}{cs:List Value}(d:Agg P ty cs.length)(i:f.eval x=.pointer (some ⟨g,0,none⟩))(h:Arr w g t cs)(c:wpList P ops Q rest (f.put o.dst (.agg cs.toArray)) w):wpList P ops Q (o::rest) f w:=by refine jh b fun K a=>?_;unfold Oper.wp execOp;simp only[e,i,io,LU d h,gT,iT,Oper.upon];exact a _ _ c
theorem Ag{A B C D E:Type}{a:A}{b:B}{c:C}{d:D}{e:E}:a=a/\b=b/\c=c/\d=d/\e=e:=⟨rfl,rfl,rfl,rfl,rfl⟩
theorem Az(b:o.guard=none)(k:o.op=.store ty x y){g:Nat}{t:TypeId}{cs vs:List Value}{va:Array Value}(l:f.eval x=.pointer (some ⟨g,0,none⟩))(m:f.eval y=.agg va)(c:va=vs.toArray)(i:Agg P ty vs.length)(h:Arr w g t cs)(j:cs.length=vs.length)(h1:∀v∈vs,v.oneCell'=true)(e:∀d,Arr d g t vs->w.grownBy d (some g)->wpList P ops Q rest (f.put o.dst undef) d):wpList P ops Q (o::rest) f w:=by subst c;refine jh b fun K a=>?_;unfold Oper.wp execOp;simp only[k,l,m,io,D3 i h j h1,gT,iT,Oper.upon];exact a _ _ (e _ (CD h vs) (BF w g _))
theorem An{b:Func}{p:Tmp}(i:b.results=#[.cell p ty]){a:Array Value}{g:Nat}{t:TypeId}{cs:List Value}(c:Agg P ty cs.length)(hp:a.getD p undef=.pointer (some ⟨g,0,none⟩))(h:Arr w g t cs):(results b a).run P w=.ok (.agg cs.toArray) w:=by obtain⟨d,hu,e,f⟩:=c.parts;exact results_cell_row i a w g t cs.toArray (0,0) d hp h hu (by cases d<;>first|rfl|exact absurd e (by simp)) (by simpa using f)
theorem TX{o l dc c:Nat}(y:P.underlying dT=some (.slice e))(f:BS P e z bytes)(h:Arr w g t cur)(x:Sl w A m c cs)(G:m<=l)(s:o+m<=cur.length)(h1:∀v∈cs,v.oneCell'=true):∃r,(Builtin.copy_ #[dT,sT] ty #[.slice (some ⟨g,o,none⟩) l dc,.slice A m c]).run P w=.ok (goInt m) r/\Arr r g t (cur.take o++cs++cur.drop (o+m))/\w.grownBy r (some g):=by (obtain⟨i,F,I,k,D⟩:=mG f;have p:(P.info? e).map (·.size)=some 1:=by simp[F,k]);have d:=x.len;by_cases h0:m=0;{subst h0;have:cs=[]:=gO d;subst this;refine⟨w,run_copy_none w dT sT ty e _ _ l dc 0 c y p (by simp),?_,⟨rfl,rfl,rfl,lrf _,fun _ _ _=>rfl⟩⟩;simpa using h};obtain⟨b,q,C,E⟩:=x.rd (by omega);subst C;have n:m.min l=m:=jH G;have:=run_copy_row (P:=P) w dT sT ty e g o l dc ⟨b,q,none⟩ m c cur.toArray t cs y p h (by rw[n];exact d) (by (intro j v B;have H:j<cs.length:=by rcases ir j cs.length with h|h;{exact h};simp[iC h]at B);have h2:=E j (by omega);rw[gqq,B]at h2;rw[<-iQ (a:=v) (b:=undef),<-h2.symm.symm];unfold Addr.add;by_cases h3:j=0<;>simp[h3]at h2|-<;>exact h2) (by simp;omega) h1;refine⟨_,?_,CD h _,BF w g _⟩;rw[this,d]
theorem LW{s:Operand}(n:o.guard=none)(C:o.op=.call {callee := .builtin .copy,args:=#[d,s],argTypes:=#[dT,sT]}){e:TypeId}{z:Value}{bytes g p r dc m c:Nat}{A:Option Addr}{t:TypeId}{a cs:List Value}(E:P.underlying dT=some (.slice e))(b:BS P e z bytes)(y:f.eval d=.slice (some ⟨g,p,none⟩) r dc)(q:f.eval s=.slice A m c)(h:Arr w g t a)(D:Sl w A m c cs)(B:m<=r)(i:p+m<=a.length)(h1:∀v∈cs,v.oneCell'=true)(x:∀k,Arr k g t (a.take p++cs++a.drop (p+m))->w.grownBy k (some g)->wpList P ops Q rest (f.put o.dst (goInt m)) k):wpList P ops Q (o::rest) f w:=by refine jh n fun K l=>?_;obtain⟨k,j,h2,h3⟩:=TX (P:=P) (ty:=o.type) (sT:=sT) (dc:=dc) E b h D B i h1;unfold Oper.wp execOp;simp only[C,resolve,invoke,builtin,io,iT,gT,lZ,jx,l9,y,q,j,Oper.upon];exact l _ _ (x k h2 h3)
end
def AJ(b:UInt8):Value := .int .u8 (b.toNat:Int)
def Ab(s:ByteArray):List UInt8:=s.data.toList
theorem Aa(s:ByteArray):(Ab s).length=s.size:=by unfold Ab;rw[Array.length_toList];rfl
theorem Ay(l:List UInt8):Ab ⟨l.toArray⟩=l:=rfl
theorem Di{t:ByteArray}(h:Ab s=Ab t):s=t:=by cases s with|mk a=>cases t with|mk b=>unfold Ab at h;simp only at h;have:=oL h;rw[this]
theorem AV(s:ByteArray)(i j:Nat):Ab (s.extract i j)=((Ab s).drop i).take (j-i):=by unfold Ab;rw[ByteArray.data_extract,Array.toList_extract]
theorem Gr(l:List UInt8):∀v∈l.map AJ,v.oneCell'=true:=by intro v a;obtain⟨b,_,rfl⟩:=iZ.1 a;rfl
section
variable {P:Program} {w:World}
theorem LX{u:TypeDesc}(j:P.underlying src=some u)(d:P.underlying dst=some (.slice e))(he:P.underlying e=some (.int .u8))(g:s.size<=maxLen):∃c a,(convert src dst (.string s)).run P w=.ok (.slice (some ⟨w.heap.size,0,none⟩) s.size c) a/\Ext w a/\Sl a (some ⟨w.heap.size,0,none⟩) s.size c ((Ab s).map AJ):=by refine⟨_,_,Lib.run_convert_string_bytes w src dst e s j d he,?_,?_⟩;{refine⟨rfl,rfl,rfl,by rw[Lib.bytesWorld_size];omega,fun k f=>Lib.bytesWorld_at_old w e s k f⟩};(refine⟨by rw[ld,Aa],grownCap_ge w s.size 0 e,grownCap_le_maxLen w s.size 0 e g,fun _=>⟨w.heap.size,0,rfl,fun i b=>?_⟩⟩;rw[iE,Lib.bytesWorld_cell w e s i b];have h1:i<(Ab s).length:=by rw[Aa];exact b);(have h2:s.data.toList.getD i 0=(Ab s)[i]:=by show(Ab s).getD i 0=_;rw[gqq,gG h1];rfl);rw[h2];simp[h1,AJ]
theorem Nn(g:o.guard=none)(l:o.op=.convert src dst x){e:TypeId}{s:ByteArray}{u:TypeDesc}(m:P.underlying src=some u)(j:P.underlying dst=some (.slice e))(he:P.underlying e=some (.int .u8))(n:f.eval x=.string s)(k:s.size<=maxLen)(i:∀c b,Ext w b->Sl b (some ⟨w.heap.size,0,none⟩) s.size c ((Ab s).map AJ)->wpList P ops Q rest (f.put o.dst (.slice (some ⟨w.heap.size,0,none⟩) s.size c)) b):wpList P ops Q (o::rest) f w:=by refine jh g fun K d=>?_;obtain⟨c,b,a,h2,h3⟩:=LX (P:=P) (w:=w) m j he k;unfold Oper.wp execOp;simp only[l,n,io,a,gT,iT,Oper.upon];exact d _ _ (i c b h2 h3)
theorem Jw{c:Nat}(i:P.underlying src=some (.slice e))(he:P.underlying e=some (.int .u8))(f:P.underlying dst=some .string)(d:Sl w a n c (l.map AJ)):(convert src dst (.slice a n c)).run P w=.ok (.string ⟨l.toArray⟩) w:=by (have m:n=l.length:=by have:=d.len;simpa using this.symm);subst m;cases a with|none=>{(have h0:l=[]:=by rcases gV l.length with h|h;{exact gO h};obtain⟨b,o,h1,_⟩:=d.rd h;cases h1);subst h0;show(convert src dst (.slice none 0 c)).run P w=_;rw[run_convert_bytes_string w src dst e none 0 c i he f];simp[Conv.bytesToString];rfl}|some ad=>(refine run_convert_bytes_back w src dst e ad c l i he f fun j g=>?_;obtain⟨b,o,h1,k⟩:=d.rd (by omega);simp only[gJ]at h1;subst h1;have h2:=k j g;have h3:(l.map AJ).getD j undef=.int .u8 (l[j].toNat:Int):=by simp[g,AJ]);rw[h3]at h2;rw[<-h2];unfold Addr.add;by_cases h0:j=0<;>simp[h0]
theorem Cz(g:o.guard=none)(m:o.op=.convert src dst x){e:TypeId}{a:Option Addr}{n c:Nat}{l:List UInt8}(p:P.underlying src=some (.slice e))(he:P.underlying e=some (.int .u8))(j:P.underlying dst=some .string)(q:f.eval x=.slice a n c)(k:Sl w a n c (l.map AJ))(i:wpList P ops Q rest (f.put o.dst (.string ⟨l.toArray⟩)) w):wpList P ops Q (o::rest) f w:=by refine jh g fun K d=>?_;have b:=Jw (P:=P) (w:=w) p he j k;unfold Oper.wp execOp;simp only[m,q,io,b,gT,iT,Oper.upon];exact d _ _ i
end
theorem CZ(h:k<s.size):(Ab s).getD k 0=s[k]:=by (have h1:k<(Ab s).length:=by rw[Aa];exact h);rw[gqq,gG h1];rfl
theorem FF(h:s.size=0):Ab s=[]:=gO (by rw[Aa];exact h)
theorem CE(c:UInt8)(w:World):Calls Tryz.prog 51 #[.int .u8 (c.toNat:Nat)] w fun e b=>e=.returned (.bool (Pt.isD c))/\b=w:=by (obtain⟨k,a⟩:∃k,c.toNat=k:=⟨_,rfl⟩;have e:Pt.isD c=(decide (48<=k) && decide (k<=57)):=by unfold Pt.isD;rw[a]);rw[e,a];clear e a;go_enter Tryz.func51,Tryz.ntmps51;by_cases h1:(48:Int)<=(k:Int);{by_cases h2:(k:Int)<=57;{go_wp2;go_ret;exact⟨CC (by simp;omega),rfl⟩};go_wp2;go_ret;exact⟨CC (by simp;omega),rfl⟩};go_wp2;go_ret;exact⟨CC (by simp;omega),rfl⟩
theorem Dj(c:UInt8)(w:World):Calls Tryz.prog 23 #[.int .u8 (c.toNat:Nat)] w fun e b=>e=.returned (.bool (Pt.isL c))/\b=w:=by (obtain⟨k,a⟩:∃k,c.toNat=k:=⟨_,rfl⟩;have e:Pt.isL c=((decide (97<=k) && decide (k<=122)) || (decide (65<=k) && decide (k<=90))):=by unfold Pt.isL;rw[a]);rw[e,a];clear e a;go_enter Tryz.func23,Tryz.ntmps23;by_cases h1:(97:Int)<=(k:Int)<;>by_cases h2:(k:Int)<=122<;>by_cases h3:(65:Int)<=(k:Int)<;>by_cases h4:(k:Int)<=90<;>first|omega|(go_wp2;go_ret;exact⟨CC (by simp;omega),rfl⟩)
theorem LY{p:UInt8->Bool}:∀{l:List UInt8} {k:Nat},k<(l.takeWhile p).length->k<l.length/\p (l.getD k 0)=true
|[],k,h=>by simp at h
|c::r,k,h=>by rw[List.takeWhile_cons]at h;by_cases hc:p c=true;{rw[gS hc]at h;match k with|0=>{exact⟨by simp,by simpa using hc⟩}|k+1=>have:=LY (l:=r) (k:=k) (by simpa using h);exact⟨by simpa using this.1,by simpa using this.2⟩};rw[gN hc]at h;simp at h
theorem FG{p:UInt8->Bool}:∀{l:List UInt8},(l.takeWhile p).length<l.length->p (l.getD (l.takeWhile p).length 0)=false
|[],h=>by simp at h
|c::r,h=>by rw[List.takeWhile_cons]at h|-;by_cases hc:p c=true;{rw[gS hc]at h|-;have:=FG (p:=p) (l:=r) (by simpa using h);simpa using this};rw[gN hc];simpa using hc
theorem Es(p:UInt8->Bool)(l:List UInt8):(l.takeWhile p).length<=l.length:=(List.takeWhile_prefix p).length_le
theorem CU(s:ByteArray)(w:World)(t:s.size<=1000000):Calls Tryz.prog 54 #[.string s] w fun e q=>e=.returned (.int .i64 (Pt.dlen (Ab s):Nat))/\q=w:=by (obtain⟨K,a⟩:∃K,Pt.dlen (Ab s)=K:=⟨_,rfl⟩;have o:K<=s.size:=by have:=Es Pt.isD (Ab s);rw[Aa]at this;rw[<-a];exact this);(have j:Hid (∀k,k<K->∃h:k<s.size,Pt.isD s[k]=true):=gF fun k n=>by obtain⟨h1,h2⟩:=LY (p:=Pt.isD) (l:=Ab s) (k:=k) (by unfold Pt.dlen at a;omega);rw[Aa]at h1;rw[CZ h1]at h2;exact⟨h1,h2⟩);(have m:Hid (∀h:K<s.size,Pt.isD s[K]=false):=gF fun h=>by have h1:=FG (p:=Pt.isD) (l:=Ab s) (by unfold Pt.dlen at a;rw[a,Aa];exact h);unfold Pt.dlen at a;rw[a,CZ h]at h1;exact h1);rw[a];clear a;go_enter Tryz.func54,Tryz.ntmps54;go_wp2;go_loopw[3] (fun g wr=>∃k:Nat,g=.int .i64 k/\k<=K/\w=wr) (fun g _=>K-(intOf g).toNat);(case atStart=>exact⟨0,rfl,gW _,rfl⟩);case round=>obtain⟨k,rfl,n,rfl⟩:=hrel;by_cases d:k<K;{obtain⟨h1,h2⟩:=j.out k d;have b:=CE s[k] w;rw[h2]at b;go_wp2_with fail;refine b.mono ?_;rintro e r ⟨rfl,rfl⟩;go_wp2;go_roundw;(case rel=>exact⟨k+1,by go_num,by omega,by trivial⟩);case measure=>simp[intOf];omega};(have c:k=K:=by omega);subst c;by_cases f:k<s.size;{have b:=CE s[k] w;rw[m.out f]at b;go_wp2_with fail;refine b.mono ?_;rintro e r ⟨rfl,rfl⟩;go_wp2;go_ret;exact⟨rfl,rfl⟩};(have i:¬(k:Int)<(s.size:Int):=by omega);go_wp2;go_ret;exact⟨rfl,rfl⟩
theorem Fa(s:ByteArray)(w:World)(y:s.size<=1000000):Calls Tryz.prog 24 #[.string s] w fun e x=>e=.returned (.int .i64 (Pt.wlen (Ab s):Nat))/\x=w:=by (obtain⟨K,c⟩:∃K,Pt.wlen (Ab s)=K:=⟨_,rfl⟩;have v:K<=s.size:=by have:=Es Pt.isW (Ab s);rw[Aa]at this;rw[<-c];exact this);(have q:Hid (∀k,k<K->∃h:k<s.size,Pt.isW s[k]=true):=gF fun k t=>by obtain⟨h1,h2⟩:=LY (p:=Pt.isW) (l:=Ab s) (k:=k) (by unfold Pt.wlen at c;omega);rw[Aa]at h1;rw[CZ h1]at h2;exact⟨h1,h2⟩);(have r:Hid (∀h:K<s.size,Pt.isW s[K]=false):=gF fun h=>by have h1:=FG (p:=Pt.isW) (l:=Ab s) (by unfold Pt.wlen at c;rw[c,Aa];exact h);unfold Pt.wlen at c;rw[c,CZ h]at h1;exact h1);rw[c];clear c;go_enter Tryz.func24,Tryz.ntmps24;go_wp2;go_loopw[3] (fun n wr=>∃k:Nat,n=.int .i64 k/\k<=K/\w=wr) (fun n _=>K-(intOf n).toNat);(case atStart=>exact⟨0,rfl,gW _,rfl⟩);case round=>obtain⟨k,rfl,t,rfl⟩:=hrel;by_cases j:k<K;{obtain⟨h1,h2⟩:=q.out k j;have d:=Dj s[k] w;have he:=CE s[k] w;unfold Pt.isW at h2;cases a:Pt.isL s[k]with|true=>{rw[a]at d;clear he h2 a;go_wp2_with fail;refine d.mono ?_;rintro e f ⟨rfl,rfl⟩;go_wp2;go_roundw;(case rel=>exact⟨k+1,by go_num,by omega,by trivial⟩);case measure=>simp[intOf];omega}|false=>rw[a]at d;cases b:Pt.isD s[k]with|true=>{rw[b]at he;clear h2 a b;go_wp2_with fail;refine d.mono ?_;rintro e f ⟨rfl,rfl⟩;go_wp2_with fail;refine he.mono ?_;rintro e f ⟨rfl,rfl⟩;go_wp2;go_roundw;(case rel=>exact⟨k+1,by go_num,by omega,by trivial⟩);case measure=>simp[intOf];omega}|false=>rw[b]at he;have g:Hid (((s[k].toNat:Nat):Int)=95):=gF (by rw[a,b]at h2;simp at h2;omega);clear h2 a b;go_wp2_with fail;refine d.mono ?_;rintro e f ⟨rfl,rfl⟩;go_wp2_with fail;refine he.mono ?_;rintro e f ⟨rfl,rfl⟩;have h95:=g.out;go_wp2;go_roundw;(case rel=>exact⟨k+1,by go_num,by omega,by trivial⟩);case measure=>simp[intOf];omega};(have i:k=K:=by omega);subst i;by_cases m:k<s.size;{(have d:=Dj s[k] w;have he:=CE s[k] w;have h2:=r.out m;unfold Pt.isW at h2;simp only[Bool.or_eq_false_iff]at h2;obtain⟨⟨a,b⟩,h9⟩:=h2;rw[a]at d;rw[b]at he;have h95:¬((s[k].toNat:Nat):Int)=95:=by simp at h9;omega);clear a b h9;go_wp2_with fail;refine d.mono ?_;rintro e f ⟨rfl,rfl⟩;go_wp2_with fail;refine he.mono ?_;rintro e f ⟨rfl,rfl⟩;go_wp2;go_ret;exact⟨rfl,rfl⟩};(have o:¬(k:Int)<(s.size:Int):=by omega);go_wp2;go_ret;exact⟨rfl,rfl⟩
section
variable {P:Program} {w:World}
theorem Pq{o:Nat}{b:List Value}(d:(P.info? ty).map (·.size)=some vs.length)(k:v.cells=vs.toArray)(h:Arr w g t cs)(i:o+vs.length<=cs.length)(h1:∀v∈vs,v.oneCell'=true)(c:cs.take o++vs++cs.drop (o+vs.length)=b):∃f,(Instr.storeAt ty (.pointer (some ⟨g,o,none⟩)) v).run P w=.ok () f/\Arr f g t b/\w.grownBy f (some g):=by have a:=run_storeCells_at (P:=P) g o t vs 0 cs.toArray w h (by simpa using i) h1;rw[iW]at a;simp only[c]at a;refine⟨w.setRow g b.toArray,?_,CD h b,BF w g _⟩;cases e:P.info? ty with|none=>{simp[e]at d}|some inf=>(have j:inf.size=vs.length:=by simpa[e]using d);simp[Instr.storeAt,Instr.sureAddr,storeVar,Go.sizeOf,typeInfo,e,k,j,a]
theorem BT(j:o.guard=none)(n:o.op=.store ty x y){g a:Nat}{t:TypeId}{cs:List Value}(vs d:List Value){v:Value}(k:(P.info? ty).map (·.size)=some vs.length)(q:f.eval x=.pointer (some ⟨g,a,none⟩))(r:f.eval y=v)(p:v.cells=vs.toArray)(h:Arr w g t cs)(m:a+vs.length<=cs.length)(h1:∀v∈vs,v.oneCell'=true)(b:cs.take a++vs++cs.drop (a+vs.length)=d)(l:∀e,Arr e g t d->w.grownBy e (some g)->wpList P ops Q rest (f.put o.dst undef) e):wpList P ops Q (o::rest) f w:=by refine jh j fun K i=>?_;obtain⟨e,c,h2,h3⟩:=Pq (P:=P) k p h m h1 b;unfold Oper.wp execOp;simp only[n,q,r,io,c,gT,iT,Oper.upon];exact i _ _ (l _ h2 h3)
end
theorem KH(s:ByteArray)(c:UInt8)(w:World):Calls Tryz.prog 87 #[.string s,.int .u8 (c.toNat:Nat)] w fun e a=>e=.returned (.int .i64 (Lib.indexByte (Ab s) c))/\a=w:=by go_enter Tryz.func87,Tryz.ntmps87;go_wp2;rw[run_callFunc_extern Tryz.func132 (by kernel_rfl) (by kernel_rfl) (by kernel_rfl) (e:=Extern.BytealgIndexByte.indexByte) (by kernel_rfl),Lib.run_indexByteString];simp only[Result.andThen];rw[Oper.upon_value];go_wp2;go_ret;exact⟨rfl,rfl⟩
theorem Fb(s:ByteArray)(c:UInt8)(w:World):Calls Tryz.prog 53 #[.string s,.int .u8 (c.toNat:Nat)] w fun e a=>e=.returned (.int .i64 (Lib.indexByte (Ab s) c))/\a=w:=by have h:=fun b=>gF (KH s c b);go_enter Tryz.func53,Tryz.ntmps53;go_wp2_with fail;refine(h _).out.mono ?_;rintro e d ⟨rfl,rfl⟩;go_wp2;go_ret;exact⟨rfl,rfl⟩
theorem KI(c:UInt8):∀l:List UInt8,(0<=Lib.indexByte l c)<->c∈l
|[]=>by simp[Lib.indexByte]
|b::l=>by have ih:=KI c l;have d:=Lib.indexByte_ge l c;unfold Lib.indexByte;by_cases a:b=c;{simp[a]};(have h1:(b==c)=false:=by simpa using a);rw[h1];simp only[k8,lU,iI];by_cases h2:Lib.indexByte l c=-1;{(have h3:¬c∈l:=fun h=>by have:=ih.2 h;omega);simp[h2,h3,Ne.symm a]};(have h3:(Lib.indexByte l c==-1)=false:=by simpa using h2);rw[h3];have h4:c∈l:=ih.1 (by omega);simp[h4];omega
theorem QG{c:UInt8}(h:c.toNat=n)(a:n<256):c=UInt8.ofNat n:=by apply UInt8.toNat.inj;rw[h];simp;omega
theorem TY(c:UInt8):decide (0<=Lib.indexByte (Ab ⟨#[32,9,10,13]⟩) c)=Pt.isSp c:=by have h:=KI c [32,9,10,13];have e:Ab ⟨#[32,9,10,13]⟩=[32,9,10,13]:=rfl;rw[e,lQ,decide_eq_true_iff,h];unfold Pt.isSp;simp only[kO,iD,iI,jS,mq];refine⟨fun h=>?_,fun h=>?_⟩;{rcases h with rfl|rfl|rfl|rfl<;>decide};rcases h with((h|h)|h)|h<;>rw[QG h (by omega)]<;>decide
theorem TZ(c:UInt8):decide (0<=Lib.indexByte (Ab ⟨#[43,45,42,47,94,40,41]⟩) c)=Pt.isP c:=by have h:=KI c [43,45,42,47,94,40,41];have e:Ab ⟨#[43,45,42,47,94,40,41]⟩=[43,45,42,47,94,40,41]:=rfl;rw[e,lQ,decide_eq_true_iff,h];unfold Pt.isP;simp only[kO,iD,iI,jS,mq];refine⟨fun h=>?_,fun h=>?_⟩;{rcases h with rfl|rfl|rfl|rfl|rfl|rfl|rfl<;>decide};rcases h with(((((h|h)|h)|h)|h)|h)|h<;>rw[QG h (by omega)]<;>decide
theorem UU(b:UInt8)(h0:0<s.size):((s.extract 0 1).toList==[b])=decide ((Ab s).head?=some b)/\(Ab s).tail=Ab (s.extract 1 s.size):=by have d:(s.extract 0 1).toList=Ab (s.extract 0 1):=jg ..;rw[d,AV,AV];have a:=Aa s;generalize Ab s=l at*;cases l with|nil=>{simp at a;omega}|cons c r=>refine⟨?_,?_⟩;{simp;by_cases h:c=b<;>simp[h]};simp only[mD,jJ,ja];rw[gK (by simp at a;omega)]
theorem Et(s:ByteArray)(b:UInt8)(w:World):Calls Tryz.prog 55 #[.string s,.string {data:=#[b]}] w fun e f=>e=.returned (.tuple #[.string ⟨(if(Ab s).head?=some b then(Ab s).tail else Ab s).toArray⟩,.bool (decide ((Ab s).head?=some b))])/\f=w:=by by_cases h0:s.size=0;{have e:=FF h0;have d:s=⟨#[]⟩:=Di e;subst d;go_enter Tryz.func55,Tryz.ntmps55;go_wp2;go_ret2;exact⟨rfl,rfl⟩};(have h1:(1:Int)<=(s.size:Int):=by omega);obtain⟨a,c⟩:=UU (s:=s) b (by omega);by_cases h:(Ab s).head?=some b;{simp only[h,kW,mc]at a|-;go_enter Tryz.func55,Tryz.ntmps55;go_wp2;go_ret2;exact⟨by rw[c];rfl,rfl⟩};simp only[h,lU,mT]at a|-;go_enter Tryz.func55,Tryz.ntmps55;go_wp2;go_ret2;exact⟨rfl,rfl⟩
def prL(T:ByteArray)(na:Option Addr)(nn nc:Nat)(ev:Bool)(k:Nat)(s e er fo:Int):List Value:=[.string T,.slice na nn nc,.bool ev,.int .u8 k,.int .i64 s,.int .i64 e,.int .i64 er,.int .i64 fo]
theorem Sw{s e b c:Int}:∀v∈prL T na nn nc ev k s e b c,v.oneCell'=true:=by intro v a;simp only[prL,iI,jS,mq]at a;rcases a with rfl|rfl|rfl|rfl|rfl|rfl|rfl|rfl<;>rfl
theorem Np:Agg Tryz.prog 49 8:=⟨by kernel_rfl,by kernel_rfl⟩
theorem Io(T:ByteArray)(d:Option Addr)(nn i:Nat)(ev:Bool)(k:Nat)(s e b c:Int)(a:o.guard=none/\o.op=.store 49 xx yy/\f.eval xx=.pointer (some ⟨g,0,none⟩)/\f.eval yy=.agg va/\va=(prL T d nn i ev k s e b c).toArray)(h:Arr w g tt cs)(l:∀j,Arr j g tt (prL T d nn i ev k s e b c)->w.grownBy j (some g)->wpList Tryz.prog ops Q rest (f.put o.dst undef) j)(m:cs.length=(prL T d nn i ev k s e b c).length:=by rfl):wpList Tryz.prog ops Q (o::rest) f w := Az a.1 a.2.1 a.2.2.1 a.2.2.2.1 a.2.2.2.2 Np h m Sw l
theorem C5(d:o.guard=none)(k:o.op=.store ty x y){g a:Nat}{t:TypeId}{cs:List Value}(v:Value)(b:List Value)(e:(P.info? ty).map (·.size)=some 1)(m:f.eval x=.pointer (some ⟨g,a,none⟩))(n:f.eval y=v)(l:v.cells=#[v])(h:Arr w g t cs)(p:a<cs.length)(h1:v.oneCell'=true)(c:cs.take a++[v]++cs.drop (a+1)=b)(j:∀i,Arr i g t b->w.grownBy i (some g)->wpList P ops Q rest (f.put o.dst undef) i):wpList P ops Q (o::rest) f w := BT d k [v] b e m n l h (by simp;omega) (by simp[h1]) c j
end Go.Proofs.YtpkijbkpjhpfmaaGreatDoor
