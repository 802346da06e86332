/- Part Gs1. -/
import Derived.WalkKit
import Derived.Lib.Hide
import Derived.Deep.Draws
import Derived.Maps.AppendAt
import Derived.Deep.AppendLies
import Derived.RegionTactic
import Derived.OwnWalk
import Derived.Orders
import Derived.StillTail
import Derived.Test.YthdbingomfdeoaaGreatDoorProg
import Derived.Deep.QuietTactic
import Derived.BigQuiet
import Derived.Deep.DeepCutAuto
import Derived.Deep.CutBlock
set_option linter.all false
set_option maxRecDepth 100000
set_option maxHeartbeats 100000000
namespace Go.Proofs.YthdbingomfdeoaaGreatDoor
open Tryz Go Go.RowKit
variable {f:Act} {ops:Array Oper} {Q:Exit->Act->World->Prop} {xss:List (List Int)} {xs ys:List Int} {l rest:List Oper} {cs cs' news:List Value} {b' base base' bytes cx d i j k m n n':Nat} {o:Oper} {s x y:Operand} {A a b:Option Addr} {cons row:Option Nat} {e e' t ty:TypeId} {v v0 z:Value} {w w':World}
universe u
def eZ:=@List.getElem?_eq_getElem
def f8:=@Lib.hid
def f9:=@List.take_of_length_le
def fC:=@Sem.run_bind
def fE:=@List.getElem_mem
def fF:=@Nat.eq_zero_or_pos
def fG:=@if_pos
def fH:=@List.getElem?_eq_none
def fK:=@decide_eq_false
def fL:=@List.mem_append
def fP:=@List.length_cons
def fQ:=@Sem.run_pure
def fS:=@Nat.lt_or_ge
def fT:=@run_underlying
def fV:=@List.mem_cons
def fW:=@Option.getD_some
def fZ:=@Nat.zero_add
def fc:=@Option.some.injEq
def fd:=@Value.slice.injEq
def fe:=@Result.andThen_ok
def ff:=@List.take_succ_eq_append_getElem
def fi:=@List.mem_singleton
def fk:=@List.eq_nil_of_length_eq_zero
def fl:=@if_neg
def fq:=@List.length_map
def fu:=@Nat.zero_le
def gA:=@Array.getElem?_eq_some_iff
def gD:=@List.map_cons
def gE:=@Nat.add_zero
def gI:=@wpList_plain
def gO:=@List.mem_range
def gP:=@List.drop_zero
def gQ:=@Array.getElem?_eq_none
def gT:=@World.block_lt_of_cell?
def gV:=@decide_eq_true_eq
def gX:=@of_decide_eq_true
def gY:=@Bool.and_eq_true
def gg:=@List.drop_eq_getElem_cons
def gn:=@decide_eq_true
def gz:=@Addr.mk.injEq
def iA:=@Array.getElem?_modify
def iB:=@List.drop_succ_cons
def iF:=@List.map_nil
def iI:=@Bool.false_eq_true
def iM:=@List.nil_append
def iP:=@List.map_toArray
def iS:=@List.all_eq_true
def iU:=@Nat.add_assoc
def iW:=@List.getElem?_cons_zero
def ic:=@Option.map_some
def ii:=@List.contains_iff_mem
def ij:=@and_true
def il:=@World.cell?_of_block
def im:=@List.mem_of_mem_take
def iq:=@List.nodup_append
def ir:=@List.getElem?_set
def iw:=@List.ext_getElem?
def iz:=@List.take_append_drop
def j6:=@Classical.epsilon_spec
def jH:=@Array.getD_eq_getD_getElem?
def jI:=@List.setIfInBounds_toArray
def jO:=@List.set_cons_zero
def jR:=@Calls.quiet_of
def jS:=@List.mem_cons_of_mem
def jT:=@info_parts
def jU:=@List.length_nil
def jW:=@Bool.or_eq_true
def jX:=@Array.getElem?_setIfInBounds_ne
def jZ:=@if_false
def ja:=@Option.isSome_iff_exists
def je:=@Nat.mul_one
def jl:=@Array.getElem?_eq_getElem
def jm:=@Obj.cells.injEq
def jp:=@Nat.add_comm
def jr:=@List.set_cons_succ
def jt:=@Option.bind_some
def jy:=@getD_set_true
def k9:=@List.replicate_succ
def kC:=@List.mem_of_mem_drop
def kD:=@heap_alloc_new
def kI:=@Option.map_none
def kQ:=@decide_true
def kf:=@true_and
def km:=@List.map_set
def kz:=@getD_replicate_false
def lI:=@getD_set_ne
def lJ:=@Nat.lt_irrefl
def lY:=@mem_ready
def lZ:=@beq_iff_eq
def lf:=@List.getD_cons_zero
def ll:=@decide_false
def ln:=@World.grownBy.refl
def mA:=@wp_region_any
def mN:=@Bool.not_eq_true'
def mf:=@List.mem_flatMap
def mz:=@Array.size_setIfInBounds
theorem lq{b:Type u}{a:b}{l:List b}:(a::l).length=l.length+1:=fP
theorem lw{a:Type u}:([]:List a).length=0:=jU
theorem lj{b:Type u}{a:b}{l:List b}{i:Nat}:(a::l).drop (i+1)=l.drop i:=iB
theorem lk{a:Type u}{l:List a}:l.drop 0=l:=gP
theorem lC{b:Type u}{a:b}{l:List b}{i:Nat}:l.toArray.setIfInBounds i a=(l.set i a).toArray:=jI _ _ _
theorem lD{b:Type u}{x a:b}{l:List b}{i:Nat}:(x::l).set (i+1) a=x::l.set i a:=jr
theorem lE{b:Type u}{x a:b}{l:List b}:(x::l).set 0 a=a::l:=jO
theorem gqq{a:Type u}{l:List a}{i:Nat}{d:a}:l.getD i d=l[i]?.getD d:=List.getD_eq_getElem?_getD
theorem lrf(n:Nat):n<=n:=Nat.le_refl n
def Ext(w w':World):Prop:=Below w.heap.size w w'
theorem Ext.refl(w:World):Ext w w:=Below.refl _ _
theorem Ext.trans{a b c:World}(h:Ext a b)(k:Ext b c):Ext a c:=Below.trans h (Below.mono k h.size)
theorem Ext.size{w a:World}(h:Ext w a):w.heap.size<=a.heap.size:=Below.size h
theorem Ext.drewN{w a:World}(h:Ext w a)(n:Nat):Ext w (a.drewN n):=⟨h.os,h.tape,h.output,h.size,h.block⟩
theorem Ext.drew{w a:World}(h:Ext w a):Ext w a.drew:=⟨h.os,h.tape,h.output,h.size,h.block⟩
theorem Ext.alloc{w a:World}(h:Ext w a)(o:Obj):Ext w (a.alloc o):=Below.alloc h h.size o
theorem Ext.setCell{w a:World}(h:Ext w a){p:Addr}(hp:w.heap.size<=p.block)(u:Value):Ext w (a.setCell p u):=Below.setCell h hp u
theorem Ext.grown{w b a:World}{row:Option Nat}(h:Ext w b)(c:b.grownBy a row)(d:∀ k,row=some k->w.heap.size<=k):Ext w a :=
 Below.grown h c h.size d
theorem Ext.block{w a:World}(h:Ext w a){k:Nat}(b:k<w.heap.size):a.heap[k]?=w.heap[k]?:=Below.block h k b
theorem Ext.cell{w a:World}(h:Ext w a){p:Addr}{v:Value}(hp:w.cell? p=some v):a.cell? p=some v:=by
 rw[il (w:=w) (h.block (gT w p hp)),hp]
def Qt(w w':World):Prop:=∃ n,w'=w.drewN n
theorem Qt.refl(w:World):Qt w w:=⟨0,rfl⟩
theorem Qt.drewN{w a:World}(h:Qt w a)(n:Nat):Qt w (a.drewN n):=by
 obtain⟨m,rfl⟩:=h;exact⟨m+n,by rw[World.drewN_drewN]⟩
theorem Qt.drew{w a:World}(h:Qt w a):Qt w a.drew:=h.drewN 1
theorem Qt.trans{a b c:World}(h:Qt a b)(k:Qt b c):Qt a c:=by
 obtain⟨m,rfl⟩:=k;exact h.drewN m
theorem Qt.ext(h:Qt w w'):Ext w w':=by
 obtain⟨m,rfl⟩:=h;exact(Ext.refl w).drewN m
theorem Gm{a b:Bool}(h:b=a):Ending.returned (.bool a) = .returned (.bool b):=by rw[h]
theorem DV{k:IntKind}{a b:Int}(h:b=a):Ending.returned (.int k a) = .returned (.int k b):=by rw[h]
structure Sl(w:World)(a:Option Addr)(n c:Nat)(cs:List Value):Prop where
 len:cs.length=n
 cap:n<=c
 max:c<=maxLen
 rd:0<n->∃ b off,a=some ⟨b,off,none⟩/\∀ i,i<n->w.cell? ⟨b,off+i,none⟩=some (cs.getD i undef)
theorem Sl.ext{c:Nat}(h:Sl w a n c cs)(e:Ext w w'):Sl w' a n c cs :=
 ⟨h.len,h.cap,h.max,fun h0=>let ⟨b,off,ha,hc⟩:=h.rd h0;⟨b,off,ha,fun i d=>e.cell (hc i d)⟩⟩
theorem Sl.nil(w:World):Sl w none 0 0 []:=⟨rfl,lrf _,fu _,fun h=>absurd h (lJ _)⟩
def SlI(w:World)(a:Option Addr)(n c:Nat)(xs:List Int):Prop:=Sl w a n c (xs.map (Value.int .i64))
theorem SlI.ext{w b:World}{a:Option Addr}{n c:Nat}{xs:List Int}(h:SlI w a n c xs)(e:Ext w b):SlI b a n c xs:=Sl.ext h e
theorem SlI.len{w:World}{a:Option Addr}{n c:Nat}{xs:List Int}(h:SlI w a n c xs):xs.length=n:=by
 have:=Sl.len h;simpa using this
theorem SlI.le{c:Nat}(h:SlI w a n c xs):n<=9223372036854775807:=by
 have h1:=Sl.cap h;have h2:=Sl.max h;unfold maxLen at h2;omega
theorem SlI.at{c:Nat}(h:SlI w a n c xs){k:Nat}(l:k<n) :
 ∃ b d,a=some ⟨b,d,none⟩/\∀ i,i<n->w.cell? ⟨b,d+i,none⟩=some (.int .i64 (xs.getD i 0)):=by
 obtain⟨b,d,f,g⟩:=Sl.rd h (by omega);refine⟨b,d,f,fun i j => ?_⟩;rw[g i j];have m:=h.len;have e:i<xs.length:=by omega
 simp[e]
def SlL(w:World)(a:Option Addr)(n c:Nat)(xss:List (List Int)):Prop :=
 xss.length=n/\∃ cs,Sl w a n c cs/\∀ i,i<n->∃ a' n' c',cs.getD i undef = .slice a' n' c'/\SlI w a' n' c' (xss.getD i [])
theorem SlL.ext{w b:World}{a:Option Addr}{n c:Nat}{xss:List (List Int)}(h:SlL w a n c xss)(e:Ext w b):SlL b a n c xss:=by
 obtain⟨g,d,h1,h2⟩:=h;exact⟨g,d,h1.ext e,fun i f=>let ⟨a',n',c',h3,h4⟩:=h2 i f;⟨a',n',c',h3,h4.ext e⟩⟩
theorem SlL.len{c:Nat}(h:SlL w a n c xss):xss.length=n:=h.1
theorem SlL.le{c:Nat}(h:SlL w a n c xss):n<=9223372036854775807:=by
 obtain⟨_,b,h,_⟩:=h;have h1:=Sl.cap h;have h2:=Sl.max h;unfold maxLen at h2;omega
theorem SlL.at{c:Nat}(h:SlL w a n c xss){k:Nat}(i:k<n) :
 ∃ b d e g f,a=some ⟨b,d,none⟩/\w.cell? ⟨b,d+k,none⟩=some (.slice e g f)/\SlI w e g f (xss.getD k []):=by
 obtain⟨o,m,h1,h2⟩:=h;obtain⟨b,d,j,l⟩:=h1.rd (by omega);obtain⟨e,g,f,h3,h4⟩:=h2 k i;exact⟨b,d,e,g,f,j,by rw[l k i,h3],h4⟩
theorem Sl.of_owns{c:Nat}(h:w.ownsRow base e 1 (.slice a n c) n' cs):Sl w a n c cs:=by
 obtain⟨j,h⟩:=h;rcases h with⟨d,s⟩|⟨g,l,b,d,v,o,k,r,x,t⟩
 · simp only[fd]at d;obtain⟨rfl,rfl,rfl⟩:=d;subst s;have:cs=[]:=by simpa using j
   subst this;exact Sl.nil w
 · simp only[fd]at d;obtain⟨rfl,rfl,rfl⟩:=d;refine⟨by simpa using j,k,r,fun _=>⟨g,0,rfl,fun i p => ?_⟩⟩;have q:cs.length=n:=by simpa using j
   have m:cs.getD i undef=b.toList.getD i undef:=by
    rw[<-t];simp[p]
   have f:i<b.size:=by omega
   rw[m];simp[World.cell?,o,f]
theorem Nh{size:Nat}{xs:List Value}(h:w.ownsRow base e size v n xs)(k:Ext w w'):w'.ownsRow base e size v n xs:=by
 obtain⟨h1,h2⟩:=h;refine⟨h1,?_⟩;rcases h2 with h2|⟨g,a,b,i,f,d,r⟩
 · exact Or.inl h2
 · refine Or.inr ⟨g,a,b,i,f,?_,r⟩;have c:g<w.heap.size:=by
    rcases fS g w.heap.size with h|h
    · exact h
    · simp[gQ h]at d
   rw[k.block c,d]
def Own(w:World)(base:Nat)(e:TypeId)(a:Option Addr)(n c:Nat)(cs:List Value):Prop:=w.ownsRow base e 1 (.slice a n c) n cs
def A9(P:Program)(e:TypeId)(z:Value)(bytes:Nat):Prop :=
 (P.info? e).map (fun i=>(i.zero,i.size,i.bytes))=some (some z,1,bytes)
def blk(a:Option Addr):Option Nat:=a.map (·.block)
section
variable {w w':World} {base:Nat} {e:TypeId} {a:Option Addr} {n c:Nat} {cs:List Value}
theorem Own.sl(h:Own w base e a n c cs):Sl w a n c cs:=Sl.of_owns h
theorem Own.ext(h:Own w base e a n c cs)(k:Ext w w'):Own w' base e a n c cs:=Nh h k
theorem Own.len(h:Own w base e a n c cs):cs.length=n:=h.sl.len
theorem Own.cap(h:Own w base e a n c cs):n<=c:=h.sl.cap
theorem Own.nil(w:World)(base:Nat)(e:TypeId):Own w base e none 0 0 []:=World.ownsRow_nil w base e 1
theorem Own.lt(h:Own w base e a n c cs){k:Nat}(d:blk a=some k):base<=k/\k<w.heap.size:=by
 refine World.ownsRow.lt h k ?_;cases a with
 | none=>simp[blk]at d
 | some b=>simpa[blk,Value.ownBlock]using d
theorem Own.mono(h:Own w base e a n c cs)(i:base'<=base):Own w base' e a n c cs:=by
 obtain⟨h1,h2⟩:=h;refine⟨h1,?_⟩;rcases h2 with h2|⟨g,b,d,f,j,r⟩
 · exact Or.inl h2
 · exact Or.inr ⟨g,b,d,f,by omega,r⟩
theorem Own.kept{row:Option Nat}(h:Own w base e a n c cs)(f:w.grownBy w' row)(d:blk a=none\/blk a≠row):Own w' base e a n c cs:=by
 refine World.ownsRow.kept h f ?_;cases a with
 | none=>left;rfl
 | some b=>right;rcases d with h | h
           · simp[blk]at h
           · simpa[blk,Value.ownBlock]using h
theorem Own.drewN(h:Own w base e a n c cs)(k:Nat):Own (w.drewN k) base e a n c cs:=h
theorem Own.alloc(h:Own w base e a n c cs)(o:Obj):Own (w.alloc o) base e a n c cs:=World.ownsRow.alloc h o
theorem Own.place(h:Own w base e a n c cs)(k:0<n):∃ g,a=some ⟨g,0,none⟩/\base<=g/\g<w.heap.size:=by
 rcases h.2 with⟨_,h0⟩|⟨g,d,f,b,i,j,_⟩
 · omega
 · simp only[fd]at b;refine⟨g,b.1,i,?_⟩;rcases fS g w.heap.size with h|h
   · exact h
   · simp[gQ h]at j
end
section
variable {w:World} {base:Nat} {e:TypeId} {g n c:Nat} {cs:List Value}
theorem Own.cellAt(h:Own w base e (some ⟨g,0,none⟩) n c cs){j:Nat}(a:j<n):w.cell? ⟨g,j,none⟩=some (cs.getD j undef):=by
 have h1:=World.ownsRow.cellAt h j (by omega);have h2:j<cs.length:=by have:=h.len;omega
 rw[h1];simp[h2]
theorem Own.frozenAt(h:Own w base e (some ⟨g,0,none⟩) n c cs)(j:Nat):w.frozen? ⟨g,j,none⟩=false:=World.ownsRow.frozenAt h j
theorem Own.stored(h:Own w base e (some ⟨g,0,none⟩) n c cs)(j:Nat)(u:Value) :
 Own (w.setCell ⟨g,j,none⟩ u) base e (some ⟨g,0,none⟩) n c (cs.set j u):=(World.ownsRow.stored h j u).1
end
theorem Au(w:World)(base:Nat)(e:TypeId)(cs:Array Value)(n:Nat)(b:cs.size=n)(a:base<=w.heap.size)(c:n<=1000000) :
 Own (w.alloc (.cells cs e)) base e (some ⟨w.heap.size,0,none⟩) n n cs.toList:=by
 subst b;exact World.ownsRow_lit w cs cs.size a (by unfold maxLen;omega) (by omega)
theorem Own.drew{w:World}{base:Nat}{e:TypeId}{a:Option Addr}{n c:Nat}{cs:List Value}(h:Own w base e a n c cs):Own w.drew base e a n c cs:=h
theorem Sl.drew{w:World}{a:Option Addr}{n c:Nat}{cs:List Value}(h:Sl w a n c cs):Sl w.drew a n c cs:=h.ext (Ext.refl w).drew
theorem Sl.alloc{w:World}{a:Option Addr}{n c:Nat}{cs:List Value}(h:Sl w a n c cs)(o:Obj):Sl (w.alloc o) a n c cs:=h.ext ((Ext.refl w).alloc o)
theorem We{b:Nat}{g m c c':Nat}(h:Own w b e (some ⟨g,0,none⟩) n c cs)(o:Own w b' e' (some ⟨m,0,none⟩) n' c' cs')(t:c≠c'):g≠m:=by
 rintro rfl;rcases h.2 with⟨f,_⟩|⟨r,i,k,f,_,p,_,_,v,_⟩
 · simp at f
 rcases o.2 with⟨a,_⟩|⟨s,j,l,a,_,d,_,_,q,_⟩
 · simp at a
 simp only[fd,fc,gz,ij,kf]at f a;obtain⟨rfl,rfl⟩:=f;obtain⟨rfl,rfl⟩:=a;rw[p]at d;simp only[fc,jm]at d;obtain⟨rfl,_⟩:=d;omega
theorem Sl.upto{c:Nat}(h:Sl w a n c cs){k:Nat}(j:k<=n):Sl w a k c (cs.take k):=by
 refine⟨by have:=h.len;simp;omega,by have:=h.cap;omega,h.max,fun h0 => ?_⟩;obtain⟨b,d,e,f⟩:=h.rd (by omega);refine⟨b,d,e,fun i g => ?_⟩;rw[f i (by omega)];simp[g]
theorem Sl.from{c:Nat}(h:Sl w a n c cs){k:Nat}(l:k<=n) :
 Sl w (if c=k then a else a.map (fun x=>x.add k)) (n-k) (c-k) (cs.drop k):=by
 refine⟨by have:=h.len;simp;omega,by have:=h.cap;omega,by have:=h.max;omega,fun h0 => ?_⟩;obtain⟨b,d,f,g⟩:=h.rd (by omega);subst f;have e:=h.cap;rw[fl (by omega)];refine⟨b,d+k,?_,fun i j => ?_⟩
 · simp only[ic,Addr.add];by_cases h0:k=0 <;> simp[h0]
 · rw[iU,g (k+i) (by omega)];simp
theorem Aj(w:World)(g j:Nat)(u:Value):w.grownBy (w.setCell ⟨g,j,none⟩ u) (some g) :=
 ⟨rfl,rfl,rfl,by simp[World.setCell],fun k _ a=>by
  simp only[World.setCell,iA]
  rw[fl (by rintro rfl;exact a rfl)]⟩
def Arr(w:World)(g:Nat)(t:TypeId)(cs:List Value):Prop:=w.heap[g]?=some (.cells cs.toArray t (0,0))
section
variable {w w':World} {g:Nat} {t:TypeId} {cs:List Value}
theorem Arr.lt(h:Arr w g t cs):g<w.heap.size:=by
 rcases fS g w.heap.size with b|a
 · exact b
 · unfold Arr at h;rw[gQ a]at h;cases h
theorem Arr.cell(h:Arr w g t cs){i:Nat}(hi:i<cs.length):w.cell? ⟨g,i,none⟩=some (cs.getD i undef):=by
 unfold Arr at h;simp[World.cell?,h,hi]
theorem Arr.c(h:Arr w g t cs)(i:Nat){v:Value}(a:cs[i]?=some v):w.cell? ⟨g,i,none⟩=some v:=by
 rw[h.cell (i:=i) (by rcases fS i cs.length with h | h;exact h;simp[fH h]at a),gqq,a];rfl
theorem Arr.frozen(h:Arr w g t cs)(i:Nat):w.frozen? ⟨g,i,none⟩=false:=by
 unfold Arr at h;simp[World.frozen?,h]
theorem Arr.new(w:World)(t:TypeId)(cs:List Value):Arr (w.alloc (.cells cs.toArray t)) w.heap.size t cs:=kD w _
theorem Arr.set(h:Arr w g t cs)(i:Nat)(u:Value):Arr (w.setCell ⟨g,i,none⟩ u) g t (cs.set i u):=by
 unfold Arr at h |-;simp[World.setCell,iA,h]
theorem Arr.sl(h:Arr w g t cs){k:Nat}(b:k<=cs.length)(c:cs.length<=maxLen):Sl w (some ⟨g,0,none⟩) k cs.length (cs.take k):=by
 refine⟨by simp;omega,b,c,fun _=>⟨g,0,rfl,fun i a => ?_⟩⟩;rw[fZ,h.cell (by omega)];simp[a]
theorem Arr.ext(h:Arr w g t cs)(k:Ext w w'):Arr w' g t cs:=(k.block h.lt).trans h
theorem Arr.kept(h:Arr w g t cs)(a:w.grownBy w' row)(b:some g≠row):Arr w' g t cs:=(a.block g h.lt b).trans h
theorem Arr.drewN(h:Arr w g t cs)(n:Nat):Arr (w.drewN n) g t cs:=h
theorem Arr.alloc(h:Arr w g t cs)(o:Obj):Arr (w.alloc o) g t cs:=(Below.heap_alloc w o g h.lt).trans h
theorem Arr.far(h:Arr w g t cs){p:Addr}(hp:g≠p.block)(u:Value):Arr (w.setCell p u) g t cs:=(Below.heap_setCell w p u g hp).trans h
end
section
variable {P:Program} {w:World}
theorem Mf{c:Nat}{xs:List Value} 
 (I:P.underlying t=some (.slice e)) (v:A9 P e z bytes) (J:z.cells.size=1) (d:Own w base e a n c xs) (f:Sl w A m cx news)
 (h1:∀ u∈news,u.oneCell'=true) (h63:n+m<=maxLen) (k:(n+m)*bytes<=140737488355328) (s:base<=w.heap.size) :
 ∃ C L y,(Builtin.append_ #[t,t] ty #[.slice a n c,.slice A m cx]).run P w = .ok (.slice C (n+m) L) y/\Own y base e C (n+m) L (xs ++ news) /\
  w.grownBy y (blk a)/\(blk C=blk a\/blk C=some w.heap.size):=by
 obtain⟨i,F,Q,x,E⟩:=jT v;have p:(Value.slice a n c).ownBlock=blk a:=by cases a <;> rfl
 rcases A with _|K
 · have N:m=0:=by
    rcases fF m with h0|h0
    · exact h0
    · obtain⟨b,o,h,_⟩:=f.rd h0;cases h
   subst N;have O:news=[]:=fk f.len;subst O;refine⟨a,c,w,?_,by simpa using d,ln w _,.inl rfl⟩;rcases d.2 with⟨q,rfl⟩|⟨g,B,D,q,_,_,H,_⟩
   · simp only[fd]at q;obtain⟨rfl,_,rfl⟩:=q;simp[Builtin.append_,fT I,sizeOf,typeInfo,F,Builtin.lenOf,Builtin.firstCells]
   · simp only[fd]at q;obtain⟨rfl,_,rfl⟩:=q;simp[Builtin.append_,fT I,sizeOf,typeInfo,F,Builtin.lenOf,Builtin.firstCells,H,storeCells]
 · have l:∀ j u,news[j]?=some u->w.cell? (K.add j)=some u:=by
    intro j u hu;have R:j<news.length:=by
     rcases fS j news.length with h|h
     · exact h
     · simp[fH h]at hu
    have G:j<m:=by have:=f.len;omega
    obtain⟨b,o,h,M⟩:=f.rd (by omega);injection h with h;subst h;have h2:=M j G;have h3:news.getD j undef=u:=by rw[gqq,hu];rfl
    rw[h3]at h2;rw[<-h2];unfold Addr.add;by_cases h0:j=0 <;> simp[h0]
   obtain⟨S,y,r,h2,h3,_,h5⟩:=run_append_own_at (P:=P) w base t ty e i z 1 bytes I F Q x E J (by omega) (.slice a n c) n xs d K m cx news (by have:=f.len;omega) l h1 h63 k s;rcases h2.2 with⟨q,h0⟩|⟨g,B,D,q,_⟩
   · subst q;refine⟨none,0,y,by rw[r,h0],?_,by rw[<-p];exact h3,by rw[<-p];exact h5⟩;unfold Own;rw[h0]at h2 |-;exact h2
   · subst q;exact⟨_,B,y,r,h2,by rw[<-p];exact h3,by rw[<-p];exact h5⟩
theorem Wf{K:Act->World->Prop} 
 (y:o.op = .call { callee := .builtin .append,args:=#[s,x],argTypes:=#[t,t] })
 {e:TypeId} {z:Value} {bytes base:Nat} {a:Option Addr} {n c:Nat} {xs:List Value} {A:Option Addr} {m v:Nat} {news:List Value}
 (C:P.underlying t=some (.slice e)) (g:A9 P e z bytes) (r:z.cells.size=1) (B:f.eval s = .slice a n c) (j:Own w base e a n c xs) (D:f.eval x = .slice A m v) (q:Sl w A m v news)
 (h1:∀ u∈news,u.oneCell'=true) (h63:n+m<=maxLen) (b:(n+m)*bytes<=140737488355328) (d:base<=w.heap.size)
 (h:∀ i p l,Own l base e i (n+m) p (xs ++ news)->w.grownBy l (blk a)->(blk i=blk a\/blk i=some w.heap.size)->K (f.put o.dst (.slice i (n+m) p)) l):o.wp P f w K Q:=by
 obtain⟨i,p,l,k,h2,h3,h4⟩:=Mf (P:=P) (ty:=o.type) C g r j q h1 h63 b d;unfold Oper.wp execOp;simp only[y,resolve,invoke,builtin,fC,fQ,fe,iP,gD,iF,B,D,k];exact h i p l h2 h3 h4
theorem BS(p:o.guard=none)
 (B:o.op = .call { callee := .builtin .append,args:=#[s,x],argTypes:=#[t,t] })
 {e:TypeId} {z:Value} {bytes base:Nat} {a:Option Addr} {n c:Nat} {xs:List Value} {A:Option Addr} {m v:Nat} {news:List Value}
 (D:P.underlying t=some (.slice e)) (g:A9 P e z bytes) (r:z.cells.size=1) (C:f.eval s = .slice a n c) (j:Own w base e a n c xs) (E:f.eval x = .slice A m v) (q:Sl w A m v news)
 (h1:∀ u∈news,u.oneCell'=true) (h63:n+m<=maxLen) (b:(n+m)*bytes<=140737488355328) (d:base<=w.heap.size)
 (h:∀ i l k,Own k base e i (n+m) l (xs ++ news)->w.grownBy k (blk a)->(blk i=blk a\/blk i=some w.heap.size)->wpList P ops Q rest (f.put o.dst (.slice i (n+m) l)) k) :
 wpList P ops Q (o :: rest) f w :=
 gI p fun _ y=>Wf B D g r C j E q h1 h63 b d fun i l k h2 h3 h4=>y _ _ (h i l k h2 h3 h4)
theorem Wg(k:P.underlying t=some (.slice e))(a:A9 P e z bytes)(f:z.cells=#[z])(g:bytes*n<=281474976710656)(h63:n<=maxLen) :
 ∃ c,(Instr.makeSlice t (.int .i64 n) (.int .i64 n)).run P w = .ok (.slice (some ⟨w.heap.size,0,none⟩) n n) c/\Own c w.heap.size e (some ⟨w.heap.size,0,none⟩) n n (List.replicate n z)/\Ext w c:=by
 obtain⟨i,j,l,b,d⟩:=jT a;obtain⟨c,h1,h2,h3⟩:=run_make_full (P:=P) w w.heap.size t e i z 1 k j l b .i64 .i64 n (by rw[d];exact g) h63 (lrf _);refine⟨c,h1,?_,(Ext.refl w).grown h3 (by simp)⟩;rw[je,f,toList_madeCells_one]at h2;exact h2
theorem EX{l c:Operand}(q:o.guard=none)(i:o.op=Op.makeSlice t l c)
 {e:TypeId} {z:Value} {bytes n:Nat} (s:P.underlying t=some (.slice e)) (a:A9 P e z bytes) (j:z.cells=#[z]) (r:f.eval l = .int .i64 n) (p:f.eval c = .int .i64 n)
 (m:bytes*n<=281474976710656) (h63:n<=maxLen)
 (k:∀ d,Own d w.heap.size e (some ⟨w.heap.size,0,none⟩) n n (List.replicate n z)->Ext w d->wpList P ops Q rest (f.put o.dst (.slice (some ⟨w.heap.size,0,none⟩) n n)) d) :
 wpList P ops Q (o :: rest) f w:=by
 refine gI q fun K g => ?_;obtain⟨d,b,h2,h3⟩:=Wg (P:=P) (w:=w) s a j m h63;unfold Oper.wp execOp;simp only[i,fC,fQ,fe,r,p,b,Oper.upon];exact g _ _ (k d h2 h3)
end
inductive Ty where
 | eq (c:Value)
 | pr (p:Value->World->Prop)
def Ty.ok:Ty->Value->World->Prop
 | .eq c,v,_=>v=c
 | .pr p,v,w=>p v w
structure Hd where
 mu:Bool
 ty:Ty
 cons:Option Nat
def he(c:Value):Hd:=⟨false,.eq c,none⟩
def hp(p:Value->World->Prop):Hd:=⟨false,.pr p,none⟩
def hu(k:Nat)(p:Value->World->Prop):Hd:=⟨false,.pr p,some k⟩
def hmp(p:Value->World->Prop):Hd:=⟨true,.pr p,none⟩
def hmu(k:Nat)(p:Value->World->Prop):Hd:=⟨true,.pr p,some k⟩
def BP(o:Oper):List Nat:=(o.after.toList.filter (Region.binds .any ·)).map (·.on)
def Be(ops:Array Oper)(j:Nat):Option Tmp:=(ops[j]?).bind (·.dst)
def Ni(ops:Array Oper)(o:Oper)(t:Tmp):Option Nat:=(BP o).find? (fun j=>Be ops j == some t)
def anc(ops:Array Oper):Nat->List Nat->List Nat
 | 0,l=>l
 | f+1,l=>l ++ anc ops f (l.flatMap fun j=>((ops[j]?).map BP).getD [])
def OZ(o:Oper):List Tmp:=o.op.operands.toList.filterMap fun | .tmp t=>some t | _=>none
def DY(ops:Array Oper)(o:Oper):List Tmp:=OZ o ++ (match o.guard with | some (j,_)=>(Be ops j).toList | none=>[])
def Jz(ops:Array Oper)(o:Oper):Bool:=match o.guard with | some (j,_)=>(BP o).contains j && (Be ops j).isSome | none=>true
def Co(ops:Array Oper)(j:Nat):List Nat:=((ops[j]?).map BP).getD []
def O0(ops:Array Oper)(cons:List (Option Nat))(n size:Nat)(i:Nat)(o:Oper):Bool :=
 (BP o).all (· < i) && (o.dst.all (· < size)) && Jz ops o &&
 (DY ops o).all (fun t=>(List.range n).all fun j=>Be ops j != some t || j == i || (BP o).contains j || (Co ops j).contains i) &&
 (List.range n).all (fun j=>j == i || Be ops j != o.dst || o.dst == none) &&
 (BP o).all (fun j=>match (cons[j]?).bind id with | some k=>k == i || (Co ops k).contains i || !((DY ops o).any fun t=>Be ops j == some t) | none=>true)
def hd0:Hd:=⟨false,.eq undef,none⟩
def AH(hs:List Hd)(j:Nat):Hd:=hs.getD j hd0
def Et(ops:Array Oper)(hs:List Hd)(a0:Act)(o:Oper)(ρ:Operand->Value)(w:World):Operand->Prop
 | .tmp t=>match Ni ops o t with
  | some j=>match (AH hs j).ty with
   | .eq c=>ρ (.tmp t)=c
   | .pr p=>∃ v,ρ (.tmp t)=v/\p v w
  | none=>ρ (.tmp t)=a0.eval (.tmp t)
 | _=>True
def Cs(ops:Array Oper)(hs:List Hd)(a0:Act)(o:Oper)(ρ:Operand->Value)(w:World):List Operand->Prop
 | []=>True
 | x :: r=>Et ops hs a0 o ρ w x/\Cs ops hs a0 o ρ w r
structure DH(ρ:Operand->Value):Prop where
 const:∀ v,ρ (.const v)=v
 global:∀ g,ρ (.global g) = .pointer (some ⟨g,0,none⟩)
 func:∀ f,ρ (.func f) = .func (.func f) #[] #[]
theorem JR(a:Act):DH a.eval:=⟨fun _=>rfl,fun _=>rfl,fun _=>rfl⟩
def Gn(P:Program)(R:Value->World->Prop):Result Next->Prop
 | .ok (.value u) w'=>R u w'
 | .ok .skip w'=>R undef w'
 | .ok (.enter f args) w'=>Calls P f args w' (fun e w''=>∃ u,e = .returned u/\R u w'')
 | _=>False
def BQ(hs:List Hd)(o:Oper):Option Bool :=
 match o.guard with
 | none=>some true
 | some (j,b)=>match (AH hs j).ty with
  | .eq (.bool c)=>some (c == b)
  | .eq (.tuple _)=>some false
  | _=>none
def Dk(ops:Array Oper)(hs:List Hd)(i:Nat)(o:Oper)(j:Nat):Bool :=
 j != i && (match (AH hs j).ty with | .eq _=>false | .pr _=>true) && !(anc ops 3 (Co ops j)).contains i &&
 !(match (AH hs j).cons with | some k=>k == i || (anc ops 3 (BP o)).contains k | none=>false)
def GM(ops:Array Oper)(hs:List Hd)(i:Nat)(o:Oper)(w w':World):List Nat->Prop
 | []=>True
 | j :: r=>(if Dk ops hs i o j then ∀ v,(AH hs j).ty.ok v w->(AH hs j).ty.ok v w' else True)/\GM ops hs i o w w' r
def D9(C:World->Prop)(ops:Array Oper)(hs:List Hd)(i:Nat)(o:Oper)(h:Hd)(w:World)(u:Value)(w':World):Prop :=
 match h.ty with
 | .eq c=>w'=w/\u=c
 | .pr p=>if h.mu then C w'/\GM ops hs i o w w' (List.range hs.length)/\p u w' else Ext w w'/\p u w'
def obl(P:Program)(C:World->Prop)(ops:Array Oper)(hs:List Hd)(a0:Act)(i:Nat)(o:Oper)(h:Hd):Prop :=
 match BQ hs o with
 | some true=>∀ ρ w,DH ρ->C w->Cs ops hs a0 o ρ w o.op.operands.toList->Gn P (D9 C ops hs i o h w) ((execOp ρ o).run P w)
 | some false=>∀ w,C w->h.ty.ok undef w
 | none=>False
def K5(P:Program)(C:World->Prop)(ops:Array Oper)(hs:List Hd)(a0:Act):Nat->List Oper->List Hd->Prop
 | _,_,[]=>True
 | i,o :: os,h :: r=>obl P C ops hs a0 i o h/\K5 P C ops hs a0 (i+1) os r
 | _,[],_ :: _=>False
theorem Nj{t:List Hd}{a:Act}(f:Jz ops o=true)(l:∀ j∈BP o,∀ c,(AH t j).ty = .eq c->∀ d,Be ops j=some d->a.tmps.getD d undef=c):∀ b,BQ t o=some b->Region.wanted o (yielded ops a.tmps)=b:=by
 intro b e;unfold BQ at e;unfold Region.wanted;cases r:o.guard with
 | none =>
  rw[r]at e;simpa using e
 | some g =>
  obtain⟨j,w⟩:=g;rw[r]at e;simp only at e |-;unfold Jz at f;rw[r]at f;simp only[gY,ii]at f;obtain⟨s,q⟩:=f;obtain⟨d,v⟩:=ja.1 q;have n:(ops[j]?).bind (·.dst)=some d:=v;cases i:(AH t j).ty with
  | pr p=>rw[i]at e;cases e
  | eq c =>
   rw[i]at e;have k:=l j s c i d v;rw[jH]at k;unfold yielded;rw[n,jt];cases c with
   | bool c =>
    simp only[fc]at e;have h1:a.tmps[d]?=some (.bool c):=by
     cases m:a.tmps[d]? with
     | none=>rw[m]at k;cases k
     | some y=>rw[m]at k;simpa using k
    rw[h1,<-e];cases c <;> cases w <;> rfl
   | tuple xs =>
    simp only[fc]at e;rw[<-e];cases m:a.tmps[d]? with
    | none=>rfl
    | some y =>
     rw[m,fW]at k;rw[k];rfl
   | _=>cases e
def DI(w:World)(K:Act->Prop):List Oper->List Hd->Act->Prop
 | o :: os,h :: r,a=>match h.ty with
  | .eq c=>DI w K os r (a.put o.dst c)
  | .pr p=>match h.cons with
   | none=>∀ v,p v w->DI w K os r (a.put o.dst v)
   | some _=>∀ v,DI w K os r (a.put o.dst v)
 | _,_,a=>K a
theorem QZ(w:World)(K:Act->Prop)(os:List Oper)(a:Act):DI w K os [] a=K a:=by cases os <;> rfl
def stab(h:Hd):Prop:=match h.ty with | .eq _=>True | .pr p=>∀ v w w',Ext w w'->p v w->p v w'
def F9:List Hd->Prop
 | []=>True
 | h :: r=>stab h/\F9 r
/-! ### Soundness -/
section
variable {P:Program} {ops:Array Oper} {hs:List Hd} {a0:Act} {C:World->Prop} {Q:Exit->Act->World->Prop}
def BA(ops:Array Oper)(j:Nat)(a:Act):Value:=match Be ops j with | some d=>a.tmps.getD d undef | none=>undef
structure Ji(ops:Array Oper)(hs:List Hd)(a0:Act)(C:World->Prop)(listed:Array Bool)(a:Act)(w:World):Prop where
 size:listed.size=ops.size
 tailF:∀ j,hs.length<=j->listed.getD j false=false
 closed:∀ j,listed.getD j false=true->∀ p∈Co ops j,listed.getD p false=true
 world:C w
 defers:a.defers=a0.defers
 tmps:a.tmps.size=a0.tmps.size
 frame:∀ t,(∀ j,j<hs.length->listed.getD j false=true->Be ops j≠some t)->a.tmps.getD t undef=a0.tmps.getD t undef
 facts:∀ j,j<hs.length->listed.getD j false=true->(∀ k,(AH hs j).cons=some k->listed.getD k false=false)->∃ v,(AH hs j).ty.ok v w/\∀ d,Be ops j=some d->a.tmps.getD d undef=v
 values:∀ j c,j<hs.length->listed.getD j false=true->(AH hs j).ty = .eq c->∀ d,Be ops j=some d->a.tmps.getD d undef=c
theorem CA{listed:Array Bool}(a:∀ j,listed.getD j false=true->∀ p∈Co ops j,listed.getD p false=true) :
 ∀ (f:Nat) (l:List Nat),(∀ j∈l,listed.getD j false=true)->∀ j∈anc ops f l,listed.getD j false=true
 | 0,_,h,j,hj=>h j hj
 | f+1,l,h,j,hj=>by
  simp only[anc,fL]at hj;rcases hj with hj|hj
  · exact h j hj
  · refine CA a f _ ?_ j hj;intro k hk;rw[mf]at hk;obtain⟨m,hm,hk⟩:=hk;exact a m (h m hm) k hk
theorem Ln :j∈BP o<->∃ e∈o.after,Region.binds .any e=true/\e.on=j:=by
 simp[BP,and_assoc]
theorem Eu{listed:Array Bool}(h:i∈Region.ready .any ops listed) :
 listed.getD i true=false/\∃ o,ops[i]?=some o/\∀ p∈BP o,listed.getD p false=true:=by
 obtain⟨h0,o,c,a⟩:=lY.1 h;refine⟨h0,o,c,fun p hp => ?_⟩;obtain⟨e,he,b,rfl⟩:=Ln.1 hp;exact a e he b
theorem Nk{listed:Array Bool}(h0:listed.getD i true=false)(b:ops[i]?=some o)(h:∀ p∈BP o,listed.getD p false=true):i∈Region.ready .any ops listed :=
 lY.2 ⟨h0,o,b,fun e he a=>h _ (Ln.2 ⟨e,he,a,rfl⟩)⟩
theorem Ev(a:ops[i]?=some o):Co ops i=BP o:=by simp[Co,a]
theorem BT(a:ops[i]?=some o):Be ops i=o.dst:=by simp[Be,a]
theorem Ig{i:Nat}{o:Oper}{w a:World}:∀ {l:List Nat},GM ops hs i o w a l->∀ j∈l,Dk ops hs i o j=true->∀ v,(AH hs j).ty.ok v w->(AH hs j).ty.ok v a
 | _ :: _,h,j,hj,hm,v,hv=>by
  rcases fV.1 hj with rfl|hj
  · have h1:=h.1;rw[fG hm]at h1;exact h1 v hv
  · exact Ig h.2 j hj hm v hv
theorem GN{i:Nat}{o:Oper}{w b:World}:∀ {l:List Nat},(∀ j∈l.filter (Dk ops hs i o),∀ v,(AH hs j).ty.ok v w->(AH hs j).ty.ok v b)->GM ops hs i o w b l
 | [],_=>trivial
 | j :: r,h=>by
  refine⟨?_,GN fun k a=>h k (by
   rw[List.filter_cons];split
   · exact jS _ a
   · exact a)⟩
  by_cases hm:Dk ops hs i o j=true
  · rw[fG hm];exact h j (by rw[List.filter_cons,fG hm];simp)
  · rw[fl hm];trivial
theorem Gp{l:List Nat}(h:l.filter (Dk ops hs i o)=[]):GM ops hs i o w w' l :=
 GN (by rw[h];intro j a;cases a)
theorem Q2{l:List Nat}(h:l.filter (Dk ops hs i o)=[j])(b:∀ v,(AH hs j).ty.ok v w->(AH hs j).ty.ok v w'):GM ops hs i o w w' l :=
 GN (by
  rw[h];intro k a;rw[fi]at a;subst a
  exact b)
theorem Ih:∀ {l:List Hd},F9 l->∀ h∈l,stab h
 | _ :: _,hh,h,hm=>by
  rcases fV.1 hm with rfl|hm
  · exact hh.1
  · exact Ih hh.2 h hm
theorem P4{h:Hd}(a:stab h){v:Value}{w d:World}(e:Ext w d)(b:h.ty.ok v w):h.ty.ok v d:=by
 unfold stab at a;revert a b;cases h.ty with
 | eq c=>exact fun _ b=>b
 | pr p=>exact fun a b=>a v w d e b
theorem Mh{a:Act}{R:Value->World->Prop}{K:Act->World->Prop}(h:Gn P R ((execOp a.eval o).run P w))
 (c:∀ u b,R u b->K (a.put o.dst u) b):o.wp P a w K Q:=by
 unfold Oper.wp;generalize (execOp a.eval o).run P w=r at *
 cases r with
 | ok n b =>
  cases n <;> simp only[Gn]at h <;> simp only[Oper.upon]
  case value u=>exact c u b h
  case skip=>exact c undef b h
  case enter f args=>exact h.mono fun e d ⟨u,he,g⟩=>by subst he;exact c u d g
 | halt x b=>simp only[Gn]at h
theorem Ct{a:Act}{d t:Tmp}:(a.put (some d) v).tmps.getD t undef=if d=t/\d<a.tmps.size then v else a.tmps.getD t undef:=by
 simp only[Act.put,jH];by_cases h:d=t
 · subst h;by_cases h2:d<a.tmps.size
   · simp[h2]
   · simp[h2]
 · rw[jX h];simp[h]
theorem GO{a:Act}{d:Option Tmp}:(a.put d v).tmps.size=a.tmps.size:=by cases d <;> simp[Act.put]
theorem Gq{a:Act}{d:Option Tmp}:(a.put d v).defers=a.defers:=by cases d <;> rfl
def unl(listed:Array Bool):Nat->Nat
 | 0=>0
 | n+1=>unl listed n+(if listed.getD n false=true then 0 else 1)
theorem JS{listed:Array Bool}{i:Nat}:∀ {n:Nat},n<=i->unl (listed.setIfInBounds i true) n=unl listed n
 | 0,_=>rfl
 | n+1,h=>by rw[unl,unl,JS (by omega),lI false (by omega)]
theorem Mi{listed:Array Bool}{i:Nat}(b:i<listed.size)(a:listed.getD i false=false):∀ {n:Nat},i<n->unl (listed.setIfInBounds i true) n+1=unl listed n
 | 0,h=>by omega
 | n+1,h=>by
  rw[unl,unl];by_cases hi:i=n
  · subst hi;rw[JS (lrf _),a];have:(listed.setIfInBounds i true).getD i false=true:=by simp[b]
    rw[this];simp
  · rw[lI false hi,<-Mi b a (n:=n) (by omega)];omega
theorem GP{listed:Array Bool}:∀ {n:Nat},unl listed n=0->∀ j,j<n->listed.getD j false=true
 | 0,_,j,hj=>by omega
 | n+1,h,j,hj=>by
  rw[unl]at h;by_cases hj':j=n
  · subst hj';by_cases hx:listed.getD j false=true
    · exact hx
    · rw[fl hx]at h;omega
  · exact GP (n:=n) (by omega) j (by omega)
theorem GQ{listed:Array Bool}:∀ {n:Nat},unl listed n≠0->∃ j,j<n/\listed.getD j false=false/\∀ k,k<j->listed.getD k false=true
 | 0,h=>absurd rfl h
 | n+1,h=>by
  by_cases h0:unl listed n=0
  · refine⟨n,by omega,?_,fun k a=>GP h0 k a⟩;rw[unl,h0]at h;by_cases hx:listed.getD n false=true
    · rw[fG hx]at h;omega
    · simpa using hx
  · obtain⟨j,hj,h1,h2⟩:=GQ h0;exact⟨j,by omega,h1,h2⟩
theorem Nl(r:List Hd):∀ (a:List Oper) (b:Nat),K5 P C ops hs a0 b a r->∀ (k:Nat) (o:Oper),a[k]?=some o->k<r.length->obl P C ops hs a0 (b+k) o (r.getD k hd0):=by
 induction r with
 | nil=>intro a b _ k o _ d;simp at d
 | cons h r ih =>
  intro a b e k o c d;cases a with
  | nil=>simp at c
  | cons o' a =>
   cases k with
   | zero =>
    simp only[iW,fc]at c;subst c;exact e.1
   | succ k =>
    have:=ih a (b+1) e.2 k o (by simpa using c) (by simpa using d);rw[iU,jp 1 k]at this;simpa using this
structure Ea(ops:Array Oper)(cons:List (Option Nat))(n size:Nat)(i:Nat)(o:Oper):Prop where
 lt:∀ p∈BP o,p<i
 dst:∀ d,o.dst=some d->d<size
 grd:Jz ops o=true
 look:∀ t∈DY ops o,∀ j,j<n->Be ops j=some t->j=i\/j∈BP o\/i∈Co ops j
 apart:∀ j,j<n->j≠i->Be ops j=o.dst->o.dst=none
 cons:∀ j∈BP o,∀ k,(cons[j]?).bind id=some k->k=i\/i∈Co ops k\/∀ t∈DY ops o,Be ops j≠some t
theorem IU{a:List (Option Nat)}{size:Nat}(h:O0 ops a n size i o=true):Ea ops a n size i o:=by
 unfold O0 at h;simp only[gY]at h;obtain⟨⟨⟨⟨⟨h1,h2⟩,h3⟩,h4⟩,h5⟩,h6⟩:=h;refine⟨?_,?_,h3,?_,?_,?_⟩
 · intro p hp;simpa using iS.1 h1 p hp
 · intro d b;rw[b]at h2;simpa using h2
 · intro t g j c b;have:=iS.1 (iS.1 h4 t g) j (by simpa using c);simp only[jW,bne_iff_ne,ne_eq,lZ,ii]at this;rcases this with((h|h) | h) | h
   · exact absurd b h
   · exact Or.inl h
   · exact Or.inr (Or.inl h)
   · exact Or.inr (Or.inr h)
 · intro j c e b;have:=iS.1 h5 j (by simpa using c);simp only[jW,bne_iff_ne,ne_eq,lZ]at this;rcases this with(h|h) | h
   · exact absurd h e
   · exact absurd b h
   · exact h
 · intro j c k f;have:=iS.1 h6 j c;rw[f]at this;simp only[jW,lZ,ii,mN,List.any_eq_false]at this;rcases this with(h|h) | h
   · exact Or.inl h
   · exact Or.inr (Or.inl h)
   · exact Or.inr (Or.inr h)
theorem Nm(a:j<hs.length):((hs.map (·.cons))[j]?).bind id=(AH hs j).cons:=by
 simp[AH,a]
theorem JT{t:Tmp}(h:Ni ops o t=some j):j∈BP o/\Be ops j=some t:=by
 have h1:=List.mem_of_find?_eq_some h;have h2:=List.find?_some h;exact⟨h1,by simpa using h2⟩
theorem JU{t:Tmp}(h:Ni ops o t=none){j:Nat}(a:j∈BP o):Be ops j≠some t:=by
 have:=List.find?_eq_none.1 h j a;simpa using this
theorem JV{o:Oper}{a:Operand->Value}{w:World}:∀ {l:List Operand},(∀ x∈l,Et ops hs a0 o a w x)->Cs ops hs a0 o a w l
 | [],_=>trivial
 | x :: r,h=>⟨h x (by simp),JV fun y b=>h y (by simp[b])⟩
theorem St(a7:K5 P C ops hs a0 0 ops.toList hs)(ad:F9 hs)(aa:∀ w n,Ext w n->C w->C n){listed:Array Bool}{a:Act}{w:World}
 (e:Ji ops hs a0 C listed a w) {i:Nat} (hi:i∈Region.ready .any ops listed) (a2:i<hs.length)
 (ac:∀ o,ops[i]?=some o->Ea ops (hs.map (·.cons)) hs.length a0.tmps.size i o) {K:Act->World->Prop}
 (hK:∀ a' n,Ji ops hs a0 C (listed.setIfInBounds i true) a' n->K a' n):wpOp P ops Q i K a w:=by
 obtain⟨h0,o,V,L⟩:=Eu hi;have T:=ac o V;have a1:i<listed.size:=by
  rw[e.size];exact(gA.1 V).1
 have Z:listed.getD i false=false:=by
  simpa[a1]using h0
 have s:listed.getD i false≠true:=by rw[Z];simp
 have N:(listed.setIfInBounds i true).getD i false=true:=by simp[a1]
 have A:obl P C ops hs a0 i o (AH hs i):=by
  have:=Nl hs ops.toList 0 a7 i o (by simpa using V) a2;simpa[AH]using this
 -- the operands
 have a8:Cs ops hs a0 o a.eval w o.op.operands.toList:=by
  refine JV fun x hx => ?_;cases x with
  | tmp t =>
   have a6:t∈DY ops o:=by
    unfold DY OZ;rw[fL];left;rw[List.mem_filterMap];exact⟨_,hx,rfl⟩
   simp only[Et];cases a5:Ni ops o t with
   | none =>
    simp only[Act.eval];refine e.frame t fun j g G m => ?_;rcases T.look t a6 j g m with h|h|h
    · subst h;exact s G
    · exact JU a5 h m
    · exact s (e.closed j G i h)
   | some j =>
    obtain⟨S,O⟩:=JT a5;have R:j<hs.length:=by have:=T.lt j S;omega
    have a3:=L j S;simp only;cases f:(AH hs j).ty with
    | eq c=>exact e.values j c R a3 f t O
    | pr p =>
     obtain⟨v,y,X⟩:=e.facts j R a3 (by
      intro k B;have:=T.cons j S k (by rw[Nm R];exact B);rcases this with h|h|h
      · subst h;exact Z
      · by_cases D:listed.getD k false=true
        · exact absurd (e.closed k D i h) s
        · simpa using D
      · exact absurd O (h t a6))
     rw[f]at y;exact⟨v,X t O,y⟩
  | _=>trivial
 -- behind the operation
 have r:∀ u n,C n->(AH hs i).ty.ok u n ->
  (∀ j,j<hs.length->j≠i->listed.getD j false=true->(∀ k,(AH hs j).cons=some k->(listed.setIfInBounds i true).getD k false=false)->∀ v,(AH hs j).ty.ok v w->(AH hs j).ty.ok v n) ->
  Ji ops hs a0 C (listed.setIfInBounds i true) (a.put o.dst u) n:=by
  intro u n hC hu U;have F:∀ j,j<hs.length->j≠i->∀ d,Be ops j=some d->(a.put o.dst u).tmps.getD d undef=a.tmps.getD d undef:=by
   intro j g z d m;cases J:o.dst with
   | none=>rfl
   | some d' =>
    rw[Ct];have:d'≠d:=by
     rintro rfl;have:=T.apart j g z (by rw[m,J]);rw[J]at this;cases this
    rw[fl (fun h=>this h.1)]
  have M:∀ d,Be ops i=some d->(a.put o.dst u).tmps.getD d undef=u:=by
   intro d m;rw[BT V]at m;rw[m,Ct,fG ⟨rfl,by rw[e.tmps];exact T.dst d m⟩]
  have q:∀ j,j≠i->(listed.setIfInBounds i true).getD j false=true->listed.getD j false=true:=by
   intro j z h
   rwa[lI false (Ne.symm z)]at h
  refine⟨by rw[mz];exact e.size,?_,?_,hC,by rw[Gq];exact e.defers,by rw[GO];exact e.tmps,?_,?_,?_⟩
  · intro j g;rw[lI false (by omega)];exact e.tailF j g
  · intro j g p hp;by_cases l:j=i
    · subst l;rw[Ev V]at hp;exact jy (L p hp)
    · exact jy (e.closed j (q j l g) p hp)
  · intro t ht;have h1:o.dst≠some t:=by
     have:=ht i a2 N
     rwa[BT V]at this
    have h2:a.tmps.getD t undef=a0.tmps.getD t undef:=e.frame t fun j g G=>ht j g (jy G);cases J:o.dst with
    | none=>exact h2
    | some d' =>
     rw[Ct,fl (fun h=>h1 (by rw[J,h.1]))];exact h2
  · intro j g G H;by_cases l:j=i
    · subst l;exact⟨u,hu,M⟩
    · have a4:=q j l G
      obtain⟨v,y,X⟩:=e.facts j g a4 (by
       intro k B;have:=H k B;by_cases D:listed.getD k false=true
       · rw[jy D]at this;cases this
       · simpa using D)
      exact⟨v,U j g l a4 H v y,fun d m=>by rw[F j g l d m];exact X d m⟩
  · intro j c g G f d m;by_cases l:j=i
    · subst l;rw[f]at hu;rw[M d m];exact hu
    · rw[F j g l d m];exact e.values j c g (q j l G) f d m
 -- the guard
 have Y:=Nj T.grd (fun j g c f d m=>e.values j c (by have:=T.lt j g;omega) (L j g) f d m);unfold wpOp;rw[V];simp only;unfold obl at A;cases hw:BQ hs o with
 | none=>rw[hw]at A;exact A.elim
 | some b =>
  rw[hw]at A;rw[Y b hw];cases b with
  | true =>
   rw[fG rfl];left;refine Mh (A a.eval w (JR a) e.world a8) fun u n E=>hK _ _ ?_;unfold D9 at E;cases f:(AH hs i).ty with
   | eq c =>
    rw[f]at E;obtain⟨rfl,rfl⟩:=E;exact r u n e.world (by rw[f];rfl) fun _ _ _ _ _ v y=>y
   | pr p =>
    rw[f]at E;simp only at E;by_cases hmu:(AH hs i).mu=true
    · rw[fG hmu]at E;obtain⟨a9,ab,hp⟩:=E;refine r u n a9 (by rw[f];exact hp) fun j g z G H v y => ?_;cases W:(AH hs j).ty with
      | eq c=>rw[W]at y;exact y
      | pr p' =>
       rw[<-W];refine Ig ab j (by simpa using g) ?_ v y;have c1:i ∉ anc ops 3 (Co ops j):=fun h=>s (CA e.closed 3 _ (e.closed j G) i h);have c2:∀ k,(AH hs j).cons=some k->k≠i/\k ∉ anc ops 3 (BP o):=by
        intro k B;have I:=H k B;refine⟨?_,fun hm => ?_⟩
        · rintro rfl;rw[N]at I;cases I
        · rw[jy (CA e.closed 3 _ L k hm)]at I;cases I
       unfold Dk;rw[W];cases hc:(AH hs j).cons with
       | none=>simp[z,c1]
       | some k =>
        obtain⟨d1,d2⟩:=c2 k hc;simp[z,c1,d1,d2]
    · rw[fl hmu]at E
      exact r u n (aa w n E.1 e.world) (by rw[f];exact E.2) fun j g _ _ _ v y =>
       P4 (Ih ad _ (by rw[AH,gqq,eZ g];simp)) E.1 y
  | false =>
   simp only[iI,jZ];exact hK _ _ (r undef w e.world (A w e.world) fun _ _ _ _ _ v y=>y)
def CW(vs:Nat->Value):Nat->List Oper->List Hd->Act->Act
 | i,o :: os,_ :: r,a=>CW vs (i+1) os r (a.put o.dst (vs i))
 | _,_,_,a=>a
theorem JW{K:Act->Prop}{vs:Nat->Value}:∀ (r:List Hd) (d:List Oper) (i:Nat) (a:Act),DI w K d r a ->
 (∀ k,k<r.length->∀ c,(r.getD k hd0).ty = .eq c->vs (i+k)=c) ->
 (∀ k,k<r.length->∀ p,(r.getD k hd0).ty = .pr p->(r.getD k hd0).cons=none->p (vs (i+k)) w)->K (CW vs i d r a):=by
 intro r
 induction r with
 | nil =>
  intro d i a h _ _;cases d <;> exact h
 | cons h r ih =>
  intro d i a b h1 h2;cases d with
  | nil=>exact b
  | cons o d =>
   have g:∀ k,k<r.length->∀ c,(r.getD k hd0).ty = .eq c->vs (i+1+k)=c:=by
    intro k l c f;have:=h1 (k+1) (by simpa using l) c (by simpa using f)
    rwa[iU,jp 1 k]
   have j:∀ k,k<r.length->∀ p,(r.getD k hd0).ty = .pr p->(r.getD k hd0).cons=none->p (vs (i+1+k)) w:=by
    intro k l p hp f;have:=h2 (k+1) (by simpa using l) p (by simpa using hp) (by simpa using f)
    rwa[iU,jp 1 k]
   unfold DI at b;unfold CW;have m:=h1 0 (by simp);have n:=h2 0 (by simp);simp only[lf,gE]at m n;cases e:h.ty with
   | eq c =>
    rw[e]at b;rw[m c e];exact ih d (i+1) _ b g j
   | pr p =>
    rw[e]at b;simp only at b;cases f:h.cons with
    | none =>
     rw[f]at b;exact ih d (i+1) _ (b _ (n p e f)) g j
    | some k =>
     rw[f]at b;exact ih d (i+1) _ (b _) g j
theorem IV{vs:Nat->Value}:∀ (r:List Hd) (b:List Oper) (i:Nat) (a:Act),(CW vs i b r a).tmps.size=a.tmps.size:=by
 intro r
 induction r with
 | nil=>intro b i a;cases b <;> rfl
 | cons h r ih =>
  intro b i a;cases b with
  | nil=>rfl
  | cons o b=>unfold CW;rw[ih,GO]
theorem Ga{vs:Nat->Value}:∀ (r:List Hd) (b:List Oper) (i:Nat) (a:Act),(CW vs i b r a).defers=a.defers:=by
 intro r
 induction r with
 | nil=>intro b i a;cases b <;> rfl
 | cons h r ih =>
  intro b i a;cases b with
  | nil=>rfl
  | cons o b=>unfold CW;rw[ih,Gq]
theorem Ew{vs:Nat->Value}{t:Tmp}:∀ (r:List Hd) (b:List Oper) (i:Nat) (a:Act),(∀ k o,k<r.length->b[k]?=some o->o.dst≠some t)->(CW vs i b r a).tmps.getD t undef=a.tmps.getD t undef:=by
 intro r
 induction r with
 | nil=>intro b i a _;cases b <;> rfl
 | cons h r ih =>
  intro b i a c;cases b with
  | nil=>rfl
  | cons o b =>
   unfold CW;rw[ih b (i+1) _ (fun k j f g=>c (k+1) j (by simpa using f) (by simpa using g))];have:=c 0 o (by simp) rfl;cases e:o.dst with
   | none=>rfl
   | some d=>rw[Ct,fl (fun h=>this (by rw[e,h.1]))]
theorem JX{vs:Nat->Value}{t:Tmp}:∀ (r:List Hd) (d:List Oper) (i:Nat) (a:Act) (k:Nat) (o:Oper),k<r.length->d[k]?=some o->o.dst=some t->t<a.tmps.size ->
 (∀ j n,j < r.length->d[j]?=some n->n.dst=some t->j=k)->(CW vs i d r a).tmps.getD t undef=vs (i+k):=by
 intro r
 induction r with
 | nil=>intro d i a k o m;simp at m
 | cons h r ih =>
  intro d i a k o m l p q c;cases d with
  | nil=>simp at l
  | cons n d =>
   unfold CW;cases k with
   | zero =>
    simp only[iW,fc]at l;subst l
    rw[Ew r d (i+1) _ (fun k g f b e=>by
     have:=c (k+1) g (by simpa using f) (by simpa using b) e
     omega)]
    rw[p,Ct,fG ⟨rfl,q⟩,gE]
   | succ k =>
    rw[ih d (i+1) _ k o (by simpa using m) (by simpa using l) p (by rw[GO];exact q) (fun j g f b e=>by
     have:=c (j+1) g (by simpa using f) (by simpa using b) e
     omega)]
    rw[iU,jp 1 k]
theorem P5{a b:Act}(h1:a.defers=b.defers)(h2:a.tmps.size=b.tmps.size)(h3:∀ t,a.tmps.getD t undef=b.tmps.getD t undef):a=b:=by
 cases a;cases b;simp only at h1 h2 h3;subst h1;congr 1;apply Array.ext h2;intro i c d;have:=h3 i;simpa[c,d]using this
end
/-! ### The operations' notes,kind by kind -/
section
variable {P:Program} {ops:Array Oper} {hs:List Hd} {a0:Act} {C:World->Prop} {i:Nat} {o:Oper}
theorem JA{c:Value}(d:o.guard=none)(h:∀ a w,DH a->C w->Cs ops hs a0 o a w o.op.operands.toList->(execOp a o).run P w = .ok (.value c) w) :
 obl P C ops hs a0 i o (he c):=by
 unfold obl BQ;rw[d];intro a w hp b e;rw[h a w hp b e];exact⟨rfl,rfl⟩
theorem Bj{p:Value->World->Prop}(d:o.guard=none)
 (h:∀ a w,DH a->C w->Cs ops hs a0 o a w o.op.operands.toList->∃ v b,(execOp a o).run P w = .ok (.value v) b/\Ext w b/\p v b) :
 obl P C ops hs a0 i o ⟨false,.pr p,cons⟩:=by
 unfold obl BQ;rw[d];intro a w hp c f;obtain⟨v,b,e,h1,h2⟩:=h a w hp c f;rw[e];exact⟨h1,h2⟩
theorem P6{p:Value->World->Prop}(d:o.guard=none)
 (h:∀ b w,DH b->C w->Cs ops hs a0 o b w o.op.operands.toList->∃ v a,(execOp b o).run P w = .ok (.value v) a/\C a/\GM ops hs i o w a (List.range hs.length)/\p v a) :
 obl P C ops hs a0 i o ⟨true,.pr p,cons⟩:=by
 unfold obl BQ;rw[d];intro b w hp c f;obtain⟨v,a,e,h1,h2,h3⟩:=h b w hp c f;rw[e];exact⟨h1,h2,h3⟩
theorem Su{c:Value}(e:o.guard=none)(b:o.op = .move x)(h:∀ a w,DH a->Cs ops hs a0 o a w [x]->a x=c):obl P C ops hs a0 i o (he c) :=
 JA e fun a w hp _ d=>by
  rw[b]at d;simp only[execOp,b,h a w hp d];rfl
end
section
variable {P:Program} {w:World}
theorem GR{c:Nat}(m:P.underlying t=some (.slice e))(b:A9 P e z bytes)(l:k<=c) :
 (Instr.sliceAt t (.slice a n c) none (some (.int .i64 k)) none).run P w = .ok (.slice a k c) w:=by
 obtain⟨i,j,o,d,g⟩:=jT b;have f:(if c=0 then a else a.map (fun x=>x.add 0))=a:=by
  split
  · rfl
  · cases a <;> simp[Addr.add]
 have h0:(0:Int)<=k:=by omega
 have h1:(k:Int)<=c:=by omega
 simp[Instr.sliceAt,Instr.slice,Instr.sliceBounds,Instr.sliceBound,fT m,asIntOf,sizeOf,typeInfo,j,l,f]
theorem Fb{c:Nat}(l:P.underlying t=some (.slice e))(b:A9 P e z bytes)(j:k<=n) :
 (Instr.sliceAt t (.slice a n c) (some (.int .i64 k)) none none).run P w = .ok (.slice (if c=k then a else a.map (fun x=>x.add k)) (n-k) (c-k)) w:=by
 obtain⟨i,g,m,d,f⟩:=jT b;simp[Instr.sliceAt,Instr.slice,Instr.sliceBounds,Instr.sliceBound,fT l,asIntOf,sizeOf,typeInfo,g,d,j]
theorem Wh:Array.range 0=#[]:=by decide
theorem Wi:Array.range 1=#[0]:=by decide
theorem Sv(f:P.underlying t=some (.slice e))(a:A9 P e z bytes) :
 (Instr.buildSlice t 0 #[]).run P w = .ok (.slice (some ⟨w.heap.size,0,none⟩) 0 0) (w.alloc (.cells #[] e)):=by
 obtain⟨i,d,g,b,c⟩:=jT a;simp[Instr.buildSlice,fT f,sizeOf,typeInfo,d,Instr.fill,newRow,Wh]
theorem Sw(g:P.underlying t=some (.slice e))(a:A9 P e z bytes)(c:z.cells=#[z])(j:v.cells=#[v]) :
 (Instr.buildSlice t 1 #[(0,v)]).run P w = .ok (.slice (some ⟨w.heap.size,0,none⟩) 1 1) (w.alloc (.cells #[v] e)):=by
 obtain⟨i,f,k,b,d⟩:=jT a;simp[Instr.buildSlice,fT g,sizeOf,typeInfo,f,b,Instr.fill,zeroValue,k,c,j,newRow,Wi]
end
section
variable {P:Program} {ops:Array Oper} {hs:List Hd} {a0:Act} {C:World->Prop} {i:Nat} {o:Oper}
theorem Mj{c:Nat}(j:o.guard=none)(f:o.op = .slice t x none (some y) none)
 (m:P.underlying t=some (.slice e)) (b:A9 P e z bytes) (h:∀ d w,DH d->Cs ops hs a0 o d w [x,y]->d x = .slice a n c/\d y = .int .i64 k) (l:k<=c) :
 obl P C ops hs a0 i o (he (.slice a k c)) :=
 JA j fun d w hp _ g=>by
  rw[f]at g;obtain⟨h1,h2⟩:=h d w hp g;simp only[execOp,f,h1,h2,ic,kI,fC,GR m b l,fe,fQ]
theorem JY{c:Nat}(j:o.guard=none)(f:o.op = .slice t x (some y) none none)
 (m:P.underlying t=some (.slice e)) (b:A9 P e z bytes) (h:∀ d w,DH d->Cs ops hs a0 o d w [x,y]->d x = .slice a n c/\d y = .int .i64 k) (l:k<=n) :
 obl P C ops hs a0 i o (he (.slice (if c=k then a else a.map (fun x=>x.add k)) (n-k) (c-k))) :=
 JA j fun d w hp _ g=>by
  rw[f]at g;obtain⟨h1,h2⟩:=h d w hp g;simp only[execOp,f,h1,h2,ic,kI,fC,Fb m b l,fe,fQ]
theorem Sx(d:o.guard=none)(f:o.op = .buildSlice t 0 #[])
 (j:P.underlying t=some (.slice e)) (a:A9 P e z bytes) (c:∀ w,C w->base<=w.heap.size) :
 obl P C ops hs a0 i o ⟨false,.pr (fun v k=>∃ g,v = .slice (some ⟨g,0,none⟩) 0 0/\Own k base e (some ⟨g,0,none⟩) 0 0 []),cons⟩ :=
 Bj d fun m w hp b l=>by
  refine⟨_,_,?_,(Ext.refl w).alloc (.cells #[] e),w.heap.size,rfl,Au w base e #[] 0 rfl (c w b) (by omega)⟩;simp[execOp,f,Sv j a]
theorem Sy(l:o.guard=none)(d:o.op = .buildSlice t 1 #[(0,x)])
 (m:P.underlying t=some (.slice e)) (a:A9 P e z bytes) (c:z.cells=#[z]) (n:v0.cells=#[v0]) (k:∀ w,C w->base<=w.heap.size)
 (h:∀ b w,DH b->Cs ops hs a0 o b w [x]->b x=v0) :
 obl P C ops hs a0 i o ⟨false,.pr (fun v p=>∃ g,v = .slice (some ⟨g,0,none⟩) 1 1/\Own p base e (some ⟨g,0,none⟩) 1 1 [v0]),cons⟩ :=
 Bj l fun b w hp j f=>by
  rw[d]at f;have h1:=h b w hp f;refine⟨_,_,?_,(Ext.refl w).alloc (.cells #[v0] e),w.heap.size,rfl,Au w base e #[v0] 1 rfl (k w j) (by omega)⟩;simp[execOp,d,h1,Sw m a c n]
theorem Mk{N:Nat}{xs ys:List Value}(M:o.guard=none)
 (G:o.op = .call { callee := .builtin .append,args:=#[s,x],argTypes:=#[t,t] })
 (Q:P.underlying t=some (.slice e)) (d:A9 P e z bytes) (B:z.cells.size=1) (h1:∀ u∈news,u.oneCell'=true) (K:n+m=N) (h63:N<=maxLen) (b:N*bytes<=140737488355328)
 (y:xs ++ news=ys) (L:∀ w,C w->base<=w.heap.size)
 (h:∀ g w,DH g->C w->Cs ops hs a0 o g w [s,x]->∃ a c A l,g s = .slice a n c/\Own w base e a n c xs/\g x = .slice A m l/\Sl w A m l news /\
  ∀ f,w.grownBy f (blk a)->C f/\GM ops hs i o w f (List.range hs.length)) :
 obl P C ops hs a0 i o ⟨true,.pr (fun v T=>∃ D E,v = .slice D N E/\Own T base e D N E ys),cons⟩ :=
 P6 M fun g w hp F H=>by
  rw[G]at H;obtain⟨a,c,A,l,p,j,r,q,O⟩:=h g w hp F H;subst K;subst y;obtain⟨I,J,f,k,h2,h3,_⟩:=Mf (P:=P) (ty:=o.type) Q d B j q h1 h63 b (L w F);obtain⟨R,S⟩:=O f h3;refine⟨_,f,?_,R,S,I,J,rfl,h2⟩;unfold execOp;simp only[G,resolve,invoke,builtin,fC,fQ,fe,iP,gD,iF,p,r,k]
end
theorem A4(xs:List Int):∀ u∈xs.map (Value.int .i64),u.oneCell'=true:=ints_oneCell .i64 xs
section
variable {P:Program} {ops:Array Oper} {hs:List Hd} {a0:Act} {C:World->Prop} {i:Nat} {o:Oper}
theorem B4{c:Value}(d:BQ hs o=some true)(h:∀ a w,DH a->C w->Cs ops hs a0 o a w o.op.operands.toList->(execOp a o).run P w = .ok (.value c) w) :
 obl P C ops hs a0 i o (he c):=by
 unfold obl;rw[d];intro a w hp b e;rw[h a w hp b e];exact⟨rfl,rfl⟩
theorem Ii{c:Value}(e:BQ hs o=some true)(a:o.op = .move x\/o.op = .assign x)(h:∀ b w,DH b->Cs ops hs a0 o b w [x]->b x=c):obl P C ops hs a0 i o (he c) :=
 B4 e fun b w hp _ d=>by
  rcases a with a|a <;>
  · rw[a]at d;simp only[execOp,a,h b w hp d];rfl
theorem Sz{p:Value->World->Prop}(k:BQ hs o=some true)
 (h:∀ b w,DH b->C w->Cs ops hs a0 o b w o.op.operands.toList->∃ f a,(execOp b o).run P w = .ok (.enter f a) w/\Calls P f a w (fun e c=>∃ u,e = .returned u/\Ext w c/\p u c)) :
 obl P C ops hs a0 i o ⟨false,.pr p,cons⟩:=by
 unfold obl;rw[k];intro b w hp d l;obtain⟨f,a,j,g⟩:=h b w hp d l;rw[j];exact g
theorem BB{c:Value}(d:BQ hs o=some true)(h:∀ a w,C w->(∀ v,a (.const v)=v)->Cs ops hs a0 o a w o.op.operands.toList->(execOp a o).run P w = .ok (.value c) w):obl P C ops hs a0 i o (he c):=B4 d fun a w hp b e=>h a w b hp.const e
theorem Ai{p:Value->World->Prop}(g:BQ hs o=some true)(h:∀ b w,C w->(∀ v,b (.const v)=v)->(∀ f,b (.func f) = .func (.func f) #[] #[])->Cs ops hs a0 o b w o.op.operands.toList->∃ f a,(execOp b o).run P w = .ok (.enter f a) w/\Calls P f a w (fun e c=>∃ u,e = .returned u/\Ext w c/\p u c)):obl P C ops hs a0 i o ⟨false,.pr p,cons⟩:=Sz g fun b w hp d j=>h b w d hp.const hp.func j
end
def GT(ops:Array Oper)(n:Nat)(i:Nat)(o:Oper):Bool :=
 (List.range n).all (fun j=>(anc ops 12 (BP o)).contains j) || (BP o).any (fun k=>n<=k && k<i)
def Cp(ops:Array Oper)(cons:List (Option Nat))(size:Nat):Bool :=
 let n:=cons.length
 decide (n<=ops.size) && (List.range ops.size).all (fun i=>match ops[i]? with | some o=>if i<n then O0 ops cons n size i o else GT ops n i o | none=>false) &&
 cons.all (fun k=>match k with | some k=>k<n | none=>true) &&
 Region.seqB .any ops (ops.size-n) n ((Array.range ops.size).map (fun j=>decide (j<n)))
section
variable {P:Program} {Q:Exit->Act->World->Prop}
theorem GU{a:Act}(C:World->Prop)(b:List Hd)
 (N:Cp l.toArray (b.map (·.cons)) a.tmps.size=true)
 (a3:∀ w f,Ext w f->C w->C f) (hC:C w.drew) (a9:F9 b)
 (Z:K5 P C l.toArray b a 0 l b)
 (T:∀ f,C f->DI f (fun x=>wpList P l.toArray Q (l.drop b.length) x f) l b a):wpAny P .any l.toArray Q l.toArray.size (Array.replicate l.toArray.size false) a w.drew:=by
 unfold Cp at N;simp only[gY,fq,gV]at N;obtain⟨⟨⟨hn,O⟩,ac⟩,I⟩:=N;have ad:l.toArray.size=l.length:=by simp
 have g:∀ i o,l.toArray[i]?=some o->(i<b.length->Ea l.toArray (b.map (·.cons)) b.length a.tmps.size i o)/\(b.length<=i->GT l.toArray b.length i o=true):=by
  intro i o s;have G:i<l.toArray.size:=(gA.1 s).1;have:=iS.1 O i (by simpa using G);rw[s]at this;simp only at this;refine⟨fun h => ?_,fun h => ?_⟩
  · rw[fG h]at this;exact IU this
  · rw[fl (by omega)]at this;exact this
 have ab:∀ m listed x f,unl listed b.length=m->Ji l.toArray b a C listed x f->wpAny P .any l.toArray Q (m+(l.toArray.size-b.length)) listed x f:=by
  intro m
  induction m with
  | zero =>
   intro listed x f hu e;have q:=GP hu;have L:listed=(Array.range l.toArray.size).map (fun j=>decide (j<b.length)):=by
    apply Array.ext
    · rw[e.size];simp
    · intro i h1 h2;simp only[Array.getElem_map,Array.getElem_range];by_cases G:i<b.length
      · have:=q i G;simp[h1]at this;simp[this,G]
      · have:=e.tailF i (by omega);simp[h1]at this;simp[this,G]
   -- the frame
   have ha:x=CW (fun j=>match Be l.toArray j with | some d=>x.tmps.getD d undef | none=>Classical.epsilon (fun v=>(AH b j).ty.ok v f)) 0 l b a:=by
    apply P5
    · rw[Ga];exact e.defers
    · rw[IV];exact e.tmps
    · intro t;by_cases J:∃ j o,j<b.length/\l[j]?=some o/\o.dst=some t
      · obtain⟨j,o,H,s,r⟩:=J;have X:l.toArray[j]?=some o:=by simpa using s
        have A:=(g j o X).1 H
        rw[JX b l 0 a j o H s r (A.dst t r) (by
         intro k' o' a7 M a4;have Y:l.toArray[k']?=some o':=by simpa using M
         by_cases W:k'=j
         · exact W
         · have:=A.apart k' a7 W (by rw[BT Y,a4,r]);rw[r]at this
           cases this)]
        rw[fZ,BT X,r]
      · rw[Ew b l 0 a (fun k o D s r=>J ⟨k,o,D,s,r⟩)];refine e.frame t fun j H _ r=>J ?_;unfold Be at r;cases s:l.toArray[j]? with
        | none=>rw[s]at r;cases r
        | some o=>rw[s]at r;exact⟨j,o,H,by simpa using s,r⟩
   have F:=JW (vs:=fun j=>match Be l.toArray j with | some d=>x.tmps.getD d undef | none=>Classical.epsilon (fun v=>(AH b j).ty.ok v f)) b l 0 a (T f e.world)
    (by
     intro k D c R;rw[fZ];cases r:Be l.toArray k with
     | some d=>exact e.values k c D (q k D) R d r
     | none =>
      have:(AH b k).ty.ok (Classical.epsilon (fun v=>(AH b k).ty.ok v f)) f:=by
       apply j6 (p:=fun v=>(AH b k).ty.ok v f);refine⟨c,?_⟩;rw[show(AH b k).ty = .eq c from R];rfl
      have h2:(AH b k).ty = .eq c:=R;rw[h2]at this;simp only[Ty.ok]at this;rw[h2]
      exact this)
    (by
     intro k D p hp R;rw[fZ]
     obtain⟨v,hv,aa⟩:=e.facts k D (q k D) (by
      intro k' S;have h1:(AH b k).cons=none:=R;rw[h1]at S
      cases S)
     have h2:(AH b k).ty = .pr p:=hp;cases r:Be l.toArray k with
     | some d =>
      simp only;rw[aa d r];rw[h2]at hv;exact hv
     | none =>
      have:(AH b k).ty.ok (Classical.epsilon (fun v=>(AH b k).ty.ok v f)) f:=j6 (p:=fun v=>(AH b k).ty.ok v f) ⟨v,hv⟩;simp only;rw[h2]at this |-
      exact this)
   rw[<-ha]at F;rw[fZ];have hl:(l.drop b.length).length=l.toArray.size-b.length:=by simp
   rw[<-hl];rw[<-hl,<-L]at I;exact wpAny_of_seq (l.drop b.length) b.length listed x f (by intro j;simp) I F
  | succ m ih =>
   intro listed x f hu e;rw[show m+1+(l.toArray.size-b.length)=(m+(l.toArray.size-b.length))+1 by omega];refine⟨fun z => ?_,fun i G => ?_⟩
   · obtain⟨j,H,B,a6⟩:=GQ (listed:=listed) (n:=b.length) (by omega);have V:j<l.toArray.size:=by omega
     have s:l.toArray[j]?=some l.toArray[j]:=jl V;have A:=(g j _ s).1 H
     have:j∈Region.ready .any l.toArray listed:=Nk (by
      have:j<listed.size:=by rw[e.size];exact V
      simpa[this]using B) s (fun p hp=>a6 p (A.lt p hp))
     rw[z]at this;cases this
   · obtain⟨h0,o,s,a0⟩:=Eu G;have U:i<listed.size:=by rw[e.size];exact(gA.1 s).1
     have a5:listed.getD i false=false:=by simpa[U]using h0
     have K:i<b.length:=by
      rcases fS i b.length with h|h
      · exact h
      · exfalso;have ht:=(g i o s).2 h;unfold GT at ht;simp only[jW,iS,gO,ii,List.any_eq_true,gY,gV]at ht;rcases ht with ht|⟨k,D,a8,_⟩
        · obtain⟨j,H,B,_⟩:=GQ (listed:=listed) (n:=b.length) (by omega);rw[CA e.closed 12 (BP o) a0 j (ht j H)]at B;cases B
        · have:=a0 k D;rw[e.tailF k a8]at this;cases this
     refine St (by simpa using Z) a9 a3 e G K (fun o' M=>(g i o' M).1 K) fun a2 w2 a1 => ?_;refine ih _ a2 w2 ?_ a1;have:=Mi U a5 K;omega
 have E:Ji l.toArray b a C (Array.replicate l.toArray.size false) a w.drew:=by
  have A:∀ j,(Array.replicate l.toArray.size false).getD j false=false:=fun j=>kz _ j;refine⟨by simp,fun j _=>A j,(fun j h=>by rw[A j]at h;cases h),hC,rfl,rfl,fun _ _=>rfl,(fun j _ h=>by rw[A j]at h;cases h),(fun j c _ h=>by rw[A j]at h;cases h)⟩
 have y:unl (Array.replicate l.toArray.size false) b.length=b.length:=by
  have:∀ n,unl (Array.replicate l.toArray.size false) n=n:=by
   intro n
   induction n with
   | zero=>rfl
   | succ n ih=>rw[unl,ih,kz];simp
  exact this _
 have:=ab b.length _ a w.drew y E
 rwa[show b.length+(l.toArray.size-b.length)=l.toArray.size by omega]at this
theorem CX{id:Nat}{a:Act}(m:P.follows .mixedOrders=true)(C:World->Prop)(b:List Hd)
 (g:Cp l.toArray (b.map (·.cons)) a.tmps.size=true)
 (f:∀ w c,Ext w c->C w->C c) (k:C w.drew) (i:F9 b)
 (e:K5 P C l.toArray b a 0 l b)
 (d:∀ c,C c->DI c (fun j=>wpList P l.toArray Q (l.drop b.length) j c) l b a):(Code.region id l.toArray true).wp P Q a w :=
 mA m (GU C b g f k i e d)
theorem CB:(∀ {α:Type} {a:α} {l:List α},(a :: l).length=l.length+1)/\(∀ {α:Type},([]:List α).length=0)/\(∀ {α:Type} {a:α} {l:List α} {n:Nat},(a :: l).drop (n+1)=l.drop n)/\(∀ {α:Type} {l:List α},l.drop 0=l)/\(∀ (a:Act) (d:Tmp) (v:Value),a.put (some d) v={ a with tmps:=a.tmps.setIfInBounds d v })/\(∀ (a:Act) (v:Value),a.put none v=a)/\(∀ {α:Type} {l:List α} {i:Nat} {a:α},l.toArray.setIfInBounds i a=(l.set i a).toArray)/\(∀ {α:Type} {x:α} {l:List α} {n:Nat} {a:α},(x :: l).set (n+1) a=x :: l.set n a)/\(∀ {α:Type} {x:α} {l:List α} {a:α},(x :: l).set 0 a=a :: l) :=
 ⟨fP,jU,iB,gP,fun _ _ _=>rfl,fun _ _=>rfl,jI ..,jr,jO⟩
def P7:List Hd->Prop
 | []=>True
 | ⟨_,.eq _,_⟩ :: r=>P7 r
 | ⟨_,.pr p,_⟩ :: r=>(∀ v w w',Ext w w'->p v w->p v w')/\P7 r
theorem Fc:∀ {hs:List Hd},P7 hs->F9 hs
 | [],_=>trivial
 | ⟨_,.eq _,_⟩ :: _,h=>⟨trivial,Fc h⟩
 | ⟨_,.pr _,_⟩ :: _,h=>⟨h.1,Fc h.2⟩
abbrev hdP(b o:Nat):Hd:=he (.pointer (some ⟨b,o,none⟩))
abbrev hdI(z:Int):Hd:=he (.int .i64 z)
abbrev hdB(b:Bool):Hd:=he (.bool b)
abbrev hdS(a:Option Addr)(n c:Nat):Hd:=he (.slice a n c)
theorem Ad{id:Nat}{a:Act}(b:List Hd)(g:P7 b)
 (d:K5 P (fun m=>Ext w m) l.toArray b a 0 l b)
 (c:∀ i,Ext w i->DI i (fun j=>wpList P l.toArray Q (l.drop b.length) j i) l b a)
 (k:P.follows .mixedOrders=true:=by kernel_rfl) (f:Cp l.toArray (b.map (·.cons)) a.tmps.size=true:=by kernel_rfl):(Code.region id l.toArray true).wp P Q a w :=
 CX k _ b f (fun _ _ e h=>h.trans e) ((Ext.refl w).drew) (Fc g) d c
end
def BF(w:World)(base:Nat)(a:Option Addr)(n c:Nat)(xs:List Int):Prop:=Own w base 3 a n c (xs.map (Value.int .i64))
theorem BF.sl{w:World}{base:Nat}{a:Option Addr}{n c:Nat}{xs:List Int}(h:BF w base a n c xs):SlI w a n c xs:=Own.sl h
theorem BF.ext{w b:World}{base:Nat}{a:Option Addr}{n c:Nat}{xs:List Int}(h:BF w base a n c xs)(k:Ext w b):BF b base a n c xs:=Own.ext h k
theorem SC{a:Type}(L:List a)(z v:a)(r:Nat):(L ++ List.replicate (r+1) z).set L.length v=(L ++ [v]) ++ List.replicate r z:=by
 rw[List.set_append_right _ _ (lrf _)];simp[k9]
def GV(n:Nat)(xs:List Int):List Int:=xs ++ List.replicate (n-xs.length) 0
theorem Lp(n:Nat):(GV n []).map (Value.int .i64)=List.replicate n (Value.int .i64 0):=by simp[GV]
theorem JZ(h:n<=xs.length):GV n xs=xs:=by simp[GV,Nat.sub_eq_zero_of_le h]
theorem Lq(a:xs.length=k)(h:k<n)(x:Int) :
 ((GV n xs).map (Value.int .i64)).set k (Value.int .i64 x)=(GV n (xs ++ [x])).map (Value.int .i64):=by
 have e:n-xs.length=(n-(xs ++ [x]).length)+1:=by simp;omega
 rw[<-km,<-a];unfold GV;rw[e,SC]
theorem BG:A9 prog 3 (.int .i64 0) 8:=by unfold A9;kernel_rfl
def P8(w:World)(xs:List Int)(e:Ending)(w':World):Prop :=
 ∃ a n c,e = .returned (.slice a n c)/\Ext w w'/\BF w' w.heap.size a n c xs
def idn(n:Nat):List Int:=(List.range n).map Int.ofNat
def comp(xs ys:List Int):List Int:=ys.map (fun y=>xs.getD y.toNat 0)
theorem AY(n:Nat):(idn n).length=n:=by simp[idn]
theorem SE(n:Nat):idn (n+1)=idn n ++ [(n:Int)]:=by simp[idn,List.range_succ]
theorem Bl(xs ys:List Int):(comp xs ys).length=ys.length:=by simp[comp]
theorem Fd(m:n<=1000000) :
 Calls prog 44 #[.int .i64 n] w (P8 w (idn n)):=by
 go_enter func44,ntmps44
 go_wp2_with(at_make;refine EX rfl rfl underlying35 BG rfl rfl rfl (by omega) (by unfold maxLen;omega) ?_;intro p c a)
 go_loopw[9] (fun i wr=>∃ k:Nat,k<=n/\i = .int .i64 k/\Ext w wr/\BF wr w.heap.size (some ⟨w.heap.size,0,none⟩) n n (GV n (idn k))) (fun i _=>n-(intOf i).toNat)
 case atStart=>exact⟨0,fu _,rfl,a,by unfold BF;rw[show idn 0=[] from rfl,Lp];exact c⟩
 case round =>
  clear c a;obtain⟨k,l,rfl,f,b⟩:=hrel;by_cases d:k<n
  · have g:=Own.cellAt b d;have j:=Own.frozenAt b k;have o:=f.size;go_wp2;go_roundw
    case rel =>
     refine⟨k+1,by omega,by go_num,f.setCell (lrf _) _,?_⟩;have:=Own.stored b k (.int .i64 k);rw[Lq (AY k) d,<-SE]at this;exact this
    case measure=>simp[intOf];omega
  · have e:k=n:=by omega
    go_wp2;go_ret;subst e;rw[JZ (by rw[AY];exact lrf _)]at b;exact⟨_,_,_,rfl,f,b⟩
theorem Gb{c:Nat}(v:SlI w a n c xs)(j:SlI w b m d ys)
 (t:∀ i,i<m->0<=ys.getD i 0/\ys.getD i 0<n) (K:m<=1000000) :
 Calls prog 42 #[.slice a n c,.slice b m d] w (P8 w (comp xs ys)):=by
 have C:=v.le
 go_enter func42,ntmps42
 go_wp2_with(at_make;refine EX rfl rfl underlying35 BG rfl rfl rfl (by omega) (by unfold maxLen;omega) ?_;intro O q o)
 go_loopw[13] (fun i wr=>∃ k:Nat,k<=m/\i = .int .i64 k/\Ext w wr/\BF wr w.heap.size (some ⟨w.heap.size,0,none⟩) m m (GV m (comp xs (ys.take k)))) (fun i _=>m-(intOf i).toNat)
 case atStart=>exact⟨0,fu _,rfl,o,by unfold BF;rw[show comp xs (ys.take 0)=[] from rfl,Lp];exact q⟩
 case round =>
  clear q o;obtain⟨k,J,rfl,l,p⟩:=hrel;have v:=v.ext l;have j:=j.ext l;by_cases f:k<m
  · have F:=Own.cellAt p f;have G:=Own.frozenAt p k;have L:=l.size;obtain⟨E,N,rfl,s⟩:=j.at f;have H:=s k f;have x:=t k f;have g:=j.len;have A:ys.take (k+1)=ys.take k ++ [ys.getD k 0]:=by
     rw[ff (by omega)];simp[g,f]
    generalize z:ys.getD k 0=y at *
    obtain⟨D,M,rfl,r⟩:=v.at (k:=y.toNat) (by omega);have I:=r y.toNat (by omega);obtain⟨P,Q⟩:=x;have B:=f8 A;clear r s z t g A;go_wp2;go_roundw
    case rel =>
     refine⟨k+1,by omega,by go_num,l.setCell (lrf _) _,?_⟩;have:=Own.stored p k (.int .i64 (xs.getD y.toNat 0));rw[Lq (by rw[Bl];have:=j.len;simp;omega) f]at this;rw[B.out];simpa[comp,BF]using this
    case measure=>simp[intOf];omega
  · have e:k=m:=by omega
    go_wp2;go_ret;subst e;have g:=j.len;rw[f9 (by omega),JZ (by rw[Bl];omega)]at p;exact⟨_,_,_,rfl,l,p⟩
def P9(xs:List Int):Prop:=xs.length<=6/\(∀ x∈xs,0<=x/\x<xs.length)/\xs.Nodup
instance (xs:List Int):Decidable (P9 xs):=by unfold P9;exact inferInstance
def Af(xs:List Int):Bool:=decide (P9 xs)
def EY(l:List Int):List Value:=(List.range 6).map (fun(j:Nat)=>Value.bool (decide (Int.ofNat j∈l)))
theorem Q3(l:List Int):(EY l).length=6:=by simp[EY]
theorem SF(l:List Int){j:Nat}(h:j<6):(EY l).getD j undef = .bool (decide ((j:Int)∈l)):=by
 simp[EY,h]
theorem Q4(l:List Int){x:Int}(h0:0<=x):(EY l).set x.toNat (.bool true)=EY (l ++ [x]):=by
 apply iw;intro i;rw[ir];by_cases b:i<6
 · by_cases a:x.toNat=i
   · have:(i:Int)=x:=by omega
     simp[EY,a,b,this]
   · have:(i:Int)≠x:=by omega
     simp[EY,a,b,this]
 · by_cases a:x.toNat=i
   · simp[EY,a,b]
   · simp[EY,a,b]
theorem Q5(h:6<xs.length):Af xs=false:=by
 refine fK fun hp => ?_;have:=hp.1;omega
theorem SG{xs:List Int}{k:Nat}(a:k<xs.length)(h:xs.getD k 0<0\/(xs.length:Int)<=xs.getD k 0):Af xs=false:=by
 have b:xs.getD k 0∈xs:=by simp[a]
 refine fK fun hp => ?_;have:=hp.2.1 _ b;omega
theorem O1{xs:List Int}{k:Nat}(a:k<xs.length)(h:xs.getD k 0∈xs.take k):Af xs=false:=by
 refine fK fun hp => ?_;have b:=hp.2.2;have e:xs=xs.take k ++ xs.drop k:=(iz k xs).symm;have c:xs.drop k=xs.getD k 0 :: xs.drop (k+1):=by
  rw[gg a];simp[a]
 rw[e,c,iq]at b;exact b.2.2 _ h _ (by simp) rfl
def Gr(xs:List Int)(k:Nat):Prop:=(∀ x∈xs.take k,0<=x/\x<xs.length)/\(xs.take k).Nodup
theorem Nn{xs:List Int}{k:Nat}(f:k<xs.length)(h:Gr xs k)(h0:0<=xs.getD k 0)(h1:xs.getD k 0<xs.length)(i:xs.getD k 0 ∉ xs.take k):Gr xs (k+1):=by
 have e:xs.take (k+1)=xs.take k ++ [xs.getD k 0]:=by
  rw[ff f];simp[f]
 unfold Gr;rw[e];refine⟨?_,?_⟩
 · intro x c;rcases fL.1 c with c|c
   · exact h.1 x c
   · simp only[fi]at c;subst c;exact⟨h0,h1⟩
 · rw[iq];refine⟨h.2,by simp,?_⟩;intro a g b d;simp only[fi]at d;subst d;rintro rfl;exact i g
theorem O2(a:xs.length<=k)(h:Gr xs k)(h6:xs.length<=6):Af xs=true:=by
 unfold Gr at h;rw[f9 a]at h;exact gn ⟨h6,h.1,h.2⟩
theorem AU{c:Nat}(m:SlI w a n c xs) :
 Calls prog 32 #[.slice a n c] w fun e K=>e = .returned (.bool (Af xs))/\Ext w K:=by
 have I:=m.le;have r:=m.len;have f:=f8 r;by_cases h6:n<=6
 · clear r
   go_enter func32,ntmps32
   go_wp2
   go_loopw[11] (fun i wr=>∃ k:Nat,k<=n/\i = .int .i64 k/\Ext w wr/\Arr wr w.heap.size 116 (EY (xs.take k))/\Gr xs k) (fun i _=>n-(intOf i).toNat)
   case atStart=>exact⟨0,fu _,rfl,(Ext.refl w).alloc _,Arr.new w _ (EY []),by simp[Gr]⟩
   case round =>
    obtain⟨k,N,rfl,g,q,z⟩:=hrel;have m:=m.ext g;by_cases l:k<n
    · obtain⟨L,O,rfl,j⟩:=m.at l;have M:=j k l;have b:k<xs.length:=by have:=f.out;omega
      have x:xs.take (k+1)=xs.take k ++ [xs.getD k 0]:=by
       rw[ff b];simp[b]
      have B:=@SG xs k b;have D:=@O1 xs k b;have C:=@Nn xs k b z;generalize t:xs.getD k 0=y at *
      have E:=f8 x;have v:=f8 B;have G:=f8 D;have F:=f8 C;clear j t x B D C;by_cases s:y<0
      · go_wp2;go_ret;exact⟨Gm (v.out (Or.inl s)),g⟩
      · by_cases J:(n:Int)<=y
        · go_wp2;go_ret;exact⟨Gm (v.out (Or.inr (by have:=f.out;omega))),g⟩
        · have o:y.toNat<6:=by omega
          have A:y<6:=by omega
          have d:=q.cell (i:=y.toNat) (by rw[Q3];exact o);have H:=q.frozen y.toNat
          rw[SF _ o,show((y.toNat:Nat):Int)=y from by omega]at d;by_cases p:y∈xs.take k
          · simp only[p,kQ]at d;go_wp2;go_ret;exact⟨Gm (G.out p),g⟩
          · simp only[p,ll]at d;go_wp2;go_roundw
            case rel =>
             refine⟨k+1,by omega,by go_num,g.setCell (lrf _) _,?_,F.out (by omega) (by have:=f.out;omega) p⟩;have:=q.set y.toNat (.bool true);rw[Q4 _ (by omega),<-E.out]at this;exact this
            case measure=>simp[intOf];omega
    · go_wp2;go_ret;exact⟨Gm (O2 (by have:=f.out;omega) z (by have:=f.out;omega)),g⟩
 · clear r
   go_enter func32,ntmps32
   go_wp2;go_ret;exact⟨Gm (Q5 (by have:=f.out;omega)),Ext.refl w⟩
theorem UK{n m:Int}(a:0<m):(n.tmod m<0->n.tmod m+m=n%m)/\(¬ n.tmod m<0->n.tmod m=n%m) /\ -m<n.tmod m/\n.tmod m<m:=by
 have e:n%m=(n.tmod m)%m:=by
  have h:=Int.mul_tdiv_add_tmod n m;generalize n.tdiv m=q at *
  generalize n.tmod m=r at *
  rw[<-h,Int.mul_add_emod_self_left]
 have b:n.tmod m<m:=Int.tmod_lt_of_pos n a;have c : -m<n.tmod m:=by
  have h:=Int.tmod_lt_of_pos (-n) a;rw[Int.neg_tmod]at h;omega
 generalize n.tmod m=r at *
 refine⟨fun h => ?_,fun h => ?_,c,b⟩
 · rw[e,<-Int.add_emod_right,Int.emod_eq_of_lt (by omega) (by omega)]
 · rw[e,Int.emod_eq_of_lt (by omega) (by omega)]
theorem SH{n m:Int}(f:0<m)(g:m<=1000000) :
 Calls prog 33 #[.int .i64 n,.int .i64 m] w fun e j=>e = .returned (.int .i64 (n%m))/\w=j:=by
 have i:(m == 0)=false:=by simp;omega
 obtain⟨a,b,k,l⟩:=@UK n m f;have c:=f8 a;have d:=f8 b;clear a b
 go_enter func33,ntmps33
 go_wp2
 · go_ret;exact⟨DV (c.out (by assumption)).symm,rfl⟩
 · go_ret;exact⟨DV (d.out (by omega)).symm,rfl⟩
def plc(l:List Int)(i:Nat):Nat:=if i<l.length then(l.getD i 0%(i+1:Int)).toNat else 0
def Cf(l:List Int):Nat->List Int
 | 0=>[]
 | i+1=>(Cf l i).take (plc l i) ++ [(i:Int)] ++ (Cf l i).drop (plc l i)
theorem Eb(l:List Int)(n:Nat):(Cf l n).length=n:=by
 induction n with
 | zero=>rfl
 | succ i ih=>simp[Cf,ih];omega
theorem Wj(l:List Int)(i:Nat):plc l i<=i:=by
 unfold plc;split
 · have h1:=Int.emod_lt_of_pos (l.getD i 0) (show(0:Int)<i+1 by omega);have h2:=Int.emod_nonneg (l.getD i 0) (show(i+1:Int)≠0 by omega);omega
 · omega
theorem Jj{c:Nat}(E:SlI w a n c xs)(hm:m<=1000) :
 Calls prog 14 #[.slice a n c,.int .i64 m] w (P8 w (Cf xs m)):=by
 have Z:=E.le
 go_enter func14,ntmps14
 go_wp2
 go_loopw[5,6] (fun v i wr=>∃ k:Nat,∃ y p,k<=m/\i = .int .i64 k/\v = .slice y k p/\Ext w wr/\BF wr w.heap.size y k p (Cf xs k)) (fun _ i _=>m-(intOf i).toNat)
 case atStart=>exact⟨0,none,0,fu _,rfl,rfl,Ext.refl _,Own.nil _ _ _⟩
 case round =>
  obtain⟨k,y,p,D,rfl,rfl,F,N⟩:=hrel;have E:=E.ext F;by_cases Y:k<m
  · go_upto_block 1 with(fail)
    go_cut [5] (fun s5 b=>∃ K L,s5 = .slice K (k+1) L/\Ext w b/\BF b w.heap.size K (k+1) L (Cf xs (k+1)))
    case rest =>
     obtain⟨K,L,rfl,M,O⟩:=hcut;go_wp2;go_roundw
     case rel=>exact⟨k+1,_,_,by omega,by go_num,rfl,M,O⟩
     case measure=>simp[intOf];omega
    go_upto_if 16 with(fail)
    go_cut [7] (fun s7 b=>∃ q:Nat,s7 = .int .i64 q/\q=plc xs k/\b=wr)
    case first =>
     by_cases H:k<n
     · obtain⟨b1,o1,rfl,G⟩:=E.at H;have g1:=G k H;have r:(((xs.getD k 0%((k:Int)+1)).toNat:Nat):Int)=xs.getD k 0%((k:Int)+1):=by
        have:=Int.emod_nonneg (xs.getD k 0) (show(k+1:Int)≠0 by omega);omega
       have S:(xs.getD k 0%((k:Int)+1)).toNat=plc xs k:=by
        unfold plc;rw[fG (by have:=E.len;omega)]
       have J:=f8 r;have V:=f8 S;clear G r S
       go_wp2_with(go_at_call 33;refine(SH (by omega) (by omega)).mono ?_;rintro e w1 ⟨rfl,rfl⟩)
       go_meet
       refine⟨_,?_,V.out,rfl⟩;rw[J.out];simp
     · have r:plc xs k=0:=by
        unfold plc;rw[fl (by have:=E.len;omega)]
       have J:=f8 r;clear r;go_wp2
       go_meet
       exact⟨0,rfl,J.out.symm,rfl⟩
    case rest =>
     obtain⟨q,rfl,P,rfl⟩:=hcut;have A:q<=k:=by rw[P];exact Wj xs k
     have W:=f8 P;clear P;have T:=Own.cap N;have hz:=F.size
     go_upto_region 8 with(fail)
     have Q:q<=p:=by omega
     have I:=Own.sl N;have a0:(Cf xs k).length=k:=Eb xs k;have d:∀ b,Ext wc b->wc.heap.size<=b.heap.size:=fun b e=>e.size
     refine CX (by kernel_rfl) (fun b=>Ext wc b)
      [hu 4 (fun v b=>∃ g,v = .slice (some ⟨g,0,none⟩) 0 0/\Own b wc.heap.size 3 (some ⟨g,0,none⟩) 0 0 []),
       he (.slice y k p),he (.int .i64 q),he (.slice y q p),
       hmu 7 (fun v b=>∃ l o,v = .slice l q o/\Own b wc.heap.size 3 l q o (((Cf xs k).map (Value.int .i64)).take q)),
       he (.int .i64 k),hu 7 (fun v b=>∃ g,v = .slice (some ⟨g,0,none⟩) 1 1/\Own b wc.heap.size 3 (some ⟨g,0,none⟩) 1 1 [.int .i64 k]),
       hmu 11 (fun v b=>∃ l o,v = .slice l (q+1) o/\Own b wc.heap.size 3 l (q+1) o (((Cf xs k).map (Value.int .i64)).take q ++ [.int .i64 k])),
       he (.slice y k p),he (.int .i64 q),he (.slice (if p=q then y else y.map (fun x=>x.add q)) (k-q) (p - q)),
       hmp (fun v b=>∃ l o,v = .slice l (k+1) o/\Own b wc.heap.size 3 l (k+1) o ((Cf xs (k+1)).map (Value.int .i64)))]
      (by kernel_rfl) (fun _ _ e h=>h.trans e) ((Ext.refl wc).drew) ?stab ⟨?o0,?o1,?o2,?o3,?o4,?o5,?o6,?o7,?o8,?o9,?o10,?o11,trivial⟩ ?fin
     case stab =>
      exact⟨fun v w B e ⟨g,h1,h2⟩=>⟨g,h1,h2.ext e⟩,trivial,trivial,trivial,fun v w B e ⟨g,c,h1,h2⟩=>⟨g,c,h1,h2.ext e⟩,trivial,fun v w B e ⟨g,h1,h2⟩=>⟨g,h1,h2.ext e⟩,
       fun v w B e ⟨g,c,h1,h2⟩=>⟨g,c,h1,h2.ext e⟩,trivial,trivial,trivial,fun v w B e ⟨g,c,h1,h2⟩=>⟨g,c,h1,h2.ext e⟩,trivial⟩
     case o0=>exact Sx rfl rfl underlying35 BG d
     case o1 | o2 | o5 | o8 | o9=>exact Su rfl rfl (fun _ _ _ h=>h.1)
     case o3=>exact Mj rfl rfl underlying35 BG (fun _ _ _ h=>⟨h.1,h.2.1⟩) Q
     case o6=>exact Sy rfl rfl underlying35 BG rfl rfl d (fun _ _ _ h=>h.1)
     case o10=>exact JY rfl rfl underlying35 BG (fun _ _ _ h=>⟨h.1,h.2.1⟩) A
     case o4 =>
      refine Mk rfl rfl underlying35 BG rfl (n:=0) (m:=q) (fun u hu=>A4 _ u (im hu)) (by omega) (by unfold maxLen;omega) (by omega) (iM _) d ?_;rintro U b hp s ⟨⟨R,e0,g,rfl,z⟩,h1,-⟩;refine⟨_,_,_,_,e0,z,h1,(I.ext s).upto A,fun B C=>⟨s.grown C ?_,?_⟩⟩
      · intro k D;exact(Own.lt z D).1
      · refine Q2 (j:=6) (by kernel_rfl) ?_;rintro v ⟨X,rfl,t⟩;exact⟨X,rfl,Own.kept t C (Or.inr (by simpa[blk]using Ne.symm (We z t (by omega))))⟩
     case o7 =>
      refine Mk rfl rfl underlying35 BG rfl (n:=q) (m:=1) (news:=[.int .i64 k]) (by simp[Value.oneCell']) rfl (by unfold maxLen;omega) (by omega) rfl d ?_;rintro U b hp s ⟨⟨R,e0,l,o,rfl,f⟩,⟨v1,r,g,rfl,t⟩,-⟩;refine⟨_,_,_,_,e0,f,r,t.sl,fun B C=>⟨s.grown C ?_,Gp (by kernel_rfl)⟩⟩;intro k D;exact(Own.lt f D).1
     case o11 =>
      refine Mk rfl rfl underlying35 BG rfl (n:=q+1) (m:=k-q) (xs:=((Cf xs k).map (Value.int .i64)).take q ++ [.int .i64 k]) (news:=((Cf xs k).map (Value.int .i64)).drop q) (fun u hu=>A4 _ u (kC hu)) (by omega) (by unfold maxLen;omega) (by omega) ?_ d ?_
      · have:=W.out;subst this;simp[Cf]
      rintro U b hp s ⟨⟨R,e0,l,o,rfl,f⟩,r,-⟩;refine⟨_,_,_,_,e0,f,r,(I.ext s).from A,fun B C=>⟨s.grown C ?_,Gp (by kernel_rfl)⟩⟩;intro k D;exact(Own.lt f D).1
     case fin =>
      intro b s;rintro R v4 v6 v7 a3 ⟨l,o,rfl,f⟩;simp only[fP,jU,iB,gP,Act.put,jI,jr,jO,QZ];go_wp2
      all_goals
       go_meet
       exact⟨_,_,rfl,F.trans s,Own.mono f F.size⟩
  · have e:k=m:=by omega
    go_wp2;go_ret;subst e;exact⟨_,_,_,rfl,F,N⟩
theorem Lr(hp:xs.take k=ys.take k)(h1:k<xs.length)(h2:k<ys.length)(he:(xs.getD k 0 != ys.getD k 0)=false):xs.take (k+1)=ys.take (k+1):=by
 simp[h1,h2]at he;rw[ff h1,ff h2,hp,he]
theorem SJ(he:(xs.getD k 0 != ys.getD k 0)=true):xs≠ys:=by
 rintro rfl;simp at he
theorem FF{c:Nat}(g:SlI w a n c xs)(j:SlI w b m d ys) :
 Calls prog 17 #[.slice a n c,.slice b m d] w fun e F=>e = .returned (.bool (decide (xs=ys)))/\Qt w F:=by
 have L:=g.le;have E:=j.le;by_cases t:n=m
 · have x:((n:Int) != (m:Int))=false:=by simp[t]
   have y:=f8 t;clear t
   go_enter func17,ntmps17
   go_wp2
   go_loopw[5] (fun i wr=>∃ k:Nat,k<=n/\i = .int .i64 k/\Qt w wr/\xs.take k=ys.take k) (fun i _=>n-(intOf i).toNat)
   case atStart=>exact⟨0,fu _,rfl,Qt.refl _,rfl⟩
   case round =>
    obtain⟨k,K,rfl,l,hp⟩:=hrel;have z:=f8 hp;clear hp;have g:=g.ext l.ext;have j:=j.ext l.ext;by_cases q:k<n
    · have f:k<m:=by have:=y.out;omega
      obtain⟨G,M,rfl,o⟩:=g.at q;obtain⟨H,N,rfl,p⟩:=j.at f;have I:=o k q;have J:=p k f;clear o p;generalize r:xs.getD k 0=C at *
      generalize s:ys.getD k 0=D at *
      have A:=f8 r;have B:=f8 s;clear r s;go_wp2
      go_quiet (fail)
      by_cases he:(C != D)=true
      · go_wp2;go_ret;have:xs≠ys:=SJ (k:=k) (by rw[A.out,B.out];exact he);exact⟨by simp[this],l.drewN _⟩
      · have v:(C != D)=false:=by simpa using he
        go_wp2;go_roundw
        case rel=>exact⟨k+1,by omega,by go_num,l.drewN _,Lr z.out (by have:=g.len;omega) (by have:=j.len;omega) (by rw[A.out,B.out];exact v)⟩
        case measure=>simp[intOf];omega
    · go_wp2;go_ret;refine⟨?_,l⟩;have h1:=z.out;have h2:=y.out;rw[f9 (by have:=g.len;omega),f9 (by have:=j.len;omega)]at h1;simp[h1]
 · have x:((n:Int) != (m:Int))=true:=by simp;omega
   go_enter func17,ntmps17
   go_wp2;go_ret;refine⟨?_,Qt.refl _⟩;have:xs≠ys:=by rintro rfl;exact t (g.len.symm.trans j.len)
   simp[this]
theorem O3{xs ys:List (List Int)}(hp:xs.take k=ys.take k)(h1:k<xs.length)(h2:k<ys.length)(he:xs.getD k []=ys.getD k []):xs.take (k+1)=ys.take (k+1):=by
 simp[h1,h2]at he;rw[ff h1,ff h2,hp,he]
theorem O4{c:Nat}{xs ys:List (List Int)}(f:SlL w a n c xs)(g:SlL w b m d ys) :
 Calls prog 10 #[.slice a n c,.slice b m d] w fun e F=>e = .returned (.bool (decide (xs=ys)))/\Qt w F:=by
 have P:=f.le;have E:=g.le;by_cases q:n=m
 · have s:((n:Int) != (m:Int))=false:=by simp[q]
   have x:=f8 q;clear q
   go_enter func10,ntmps10
   go_wp2
   go_loopw[5] (fun i wr=>∃ k:Nat,k<=n/\i = .int .i64 k/\Qt w wr/\xs.take k=ys.take k) (fun i _=>n-(intOf i).toNat)
   case atStart=>exact⟨0,fu _,rfl,Qt.refl _,rfl⟩
   case round =>
    obtain⟨k,O,rfl,j,hp⟩:=hrel;have y:=f8 hp;clear hp;have f:=f.ext j.ext;have g:=g.ext j.ext;by_cases r:k<n
    · have l:k<m:=by have:=x.out;omega
      obtain⟨I,S,G,Q,K,rfl,M,s1⟩:=f.at r;obtain⟨J,T,H,R,L,rfl,N,B⟩:=g.at l;generalize o:xs.getD k []=t at *
      generalize p:ys.getD k []=v at *
      have z:=f8 o;have A:=f8 p;clear o p;by_cases he:t=v
      · have D:decide (t=v)=true:=by simp[he]
        have C:=f8 he;clear he;go_wp2
        go_quiet ((go_at_call 17;exact jR (FF (s1.ext ((Ext.refl _).drewN _)) (B.ext ((Ext.refl _).drewN _)))))
        go_wp2;go_roundw
        case rel=>exact⟨k+1,by omega,by go_num,j.drewN _,O3 y.out (by have:=f.len;omega) (by have:=g.len;omega) (by rw[z.out,A.out];exact C.out)⟩
        case measure=>simp[intOf];omega
      · have D:decide (t=v)=false:=by simp[he]
        go_wp2
        go_quiet ((go_at_call 17;exact jR (FF (s1.ext ((Ext.refl _).drewN _)) (B.ext ((Ext.refl _).drewN _)))))
        go_wp2;go_ret;have:xs≠ys:=by
         rintro rfl;exact he (z.out.symm.trans A.out)
        exact⟨by simp[this],j.drewN _⟩
    · go_wp2;go_ret;refine⟨?_,j⟩;have h1:=y.out;have h2:=x.out;rw[f9 (by have:=f.len;omega),f9 (by have:=g.len;omega)]at h1;simp[h1]
 · have s:((n:Int) != (m:Int))=true:=by simp;omega
   go_enter func10,ntmps10
   go_wp2;go_ret;refine⟨?_,Qt.refl _⟩;have:xs≠ys:=by rintro rfl;exact q (f.len.symm.trans g.len)
   simp[this]
theorem J0{b:Type}{l:List (List b)}{p:List b->Bool}(a:k<l.length)(h:(l.take k).all p=true)(h1:p (l.getD k [])=true):(l.take (k+1)).all p=true:=by
 rw[ff a,List.all_append,h];simp[a]at h1;simp[h1]
theorem O5{b:Type}{l:List (List b)}{p:List b->Bool}(a:k<l.length)(h1:p (l.getD k [])=false):l.all p=false:=by
 simp[a]at h1;rw[List.all_eq_false];exact⟨l[k],fE a,by simp[h1]⟩
theorem UL{c:Nat}{xs:List (List Int)}(f:SlL w a n c xs) :
 Calls prog 11 #[.slice a n c] w fun e m=>e = .returned (.bool (xs.all (fun x=>decide (x.length<=20))))/\w=m:=by
 have t:=f.le;have b:=f8 f.len
 go_enter func11,ntmps11
 go_wp2
 go_loop[3] (fun i=>∃ k:Nat,k<=n/\i = .int .i64 k/\(xs.take k).all (fun x=>decide (x.length<=20))=true) (fun i=>n-(intOf i).toNat)
 case atStart=>exact⟨0,fu _,rfl,rfl⟩
 case round =>
  obtain⟨k,s,rfl,hp⟩:=hrel;have g:=f8 hp;clear hp;by_cases d:k<n
  · obtain⟨p,y,o,l,q,rfl,r,s1⟩:=f.at d;have j:=f8 s1.len;clear s1;by_cases v:20<(l:Int)
    · go_wp2;go_ret;refine⟨Gm ?_,rfl⟩;rw[O5 (k:=k) (by have:=b.out;omega) (by rw[j.out];simp;omega)]
    · go_wp2;go_round
      case rel=>exact⟨k+1,by omega,by go_num,J0 (by have:=b.out;omega) g.out (by rw[j.out];simp;omega)⟩
      case measure=>simp[intOf];omega
  · go_wp2;go_ret;refine⟨Gm ?_,rfl⟩;have h1:=g.out
    rwa[f9 (by have:=b.out;omega)]at h1
def Xd(w:World)(xs:List Int)(er:Int)(e:Ending)(w':World):Prop :=
 ∃ a n c,e = .returned (.tuple #[.slice a n c,.int .i64 er])/\Ext w w'/\BF w' w.heap.size a n c xs
def Bs(xs ys:List Int):List Int×Int :=
 if Af xs=true/\Af ys=true then(if xs.length=ys.length then(comp xs ys,0)else([],4))else([],1)
theorem Ap(h:Af xs=true):P9 xs:=gX h
theorem BU(h:Af xs=true){i:Nat}(hi:i<xs.length):0<=xs.getD i 0/\xs.getD i 0<xs.length:=by
 have:=(Ap h).2.1 (xs.getD i 0) (by simp[hi]);exact this
theorem K6{c:Nat}(k:SlI w a n c xs)(q:SlI w b m d ys) :
 Calls prog 18 #[.slice a n c,.slice b m d] w (Xd w (Bs xs ys).1 (Bs xs ys).2):=by
 have z:=f8 k.len;have o:=f8 q.len;by_cases s:Af xs=true
 · by_cases l:Af ys=true
   · by_cases p:n=m
     · have x:((n:Int) != (m:Int))=false:=by simp[p]
       have B:=f8 p;have j:Hid (Bs xs ys=(comp xs ys,0)):=by
        show Bs xs ys=(comp xs ys,0);unfold Bs;rw[fG ⟨s,l⟩,fG (by rw[z.out,o.out,p])]
       clear p
       go_enter func18,ntmps18
       go_wp2_with fail
       refine(AU k).mono ?_;rintro e y ⟨rfl,f⟩
       go_wp2_with fail
       refine(AU (q.ext f)).mono ?_;rintro e A ⟨rfl,g⟩
       go_wp2_with fail
       have r:=f.trans g;refine(Gb (k.ext r) (q.ext r) ?_ ?_).mono ?_
       · intro i H;have:=BU l (i:=i) (by have:=o.out;omega);have h1:=o.out;have h2:=B.out;omega
       · have:=(Ap l).1;have h1:=o.out;omega
       rintro e I ⟨C,E,D,rfl,t,v⟩;go_wp2
       go_ret2
       rw[j.out];exact⟨C,E,D,rfl,r.trans t,Own.mono v r.size⟩
     · have x:((n:Int) != (m:Int))=true:=by simp;omega
       have j:Hid (Bs xs ys=([],4)):=by
        show Bs xs ys=([],4);unfold Bs;rw[fG ⟨s,l⟩,fl (by rw[z.out,o.out];exact p)]
       go_enter func18,ntmps18
       go_wp2_with fail
       refine(AU k).mono ?_;rintro e y ⟨rfl,f⟩
       go_wp2_with fail
       refine(AU (q.ext f)).mono ?_;rintro e A ⟨rfl,g⟩;go_wp2
       go_ret2
       rw[j.out];exact⟨none,0,0,rfl,f.trans g,Own.nil _ _ _⟩
   · have G:Af ys=false:=by simpa using l
     have j:Hid (Bs xs ys=([],1)):=by
      show Bs xs ys=([],1);unfold Bs;rw[fl (fun h=>l h.2)]
     go_enter func18,ntmps18
     go_wp2_with fail
     refine(AU k).mono ?_;rintro e y ⟨rfl,f⟩
     go_wp2_with fail
     refine(AU (q.ext f)).mono ?_;rintro e A ⟨rfl,g⟩;go_wp2
     go_ret2
     rw[j.out];exact⟨none,0,0,rfl,f.trans g,Own.nil _ _ _⟩
 · have F:Af xs=false:=by simpa using s
   have j:Hid (Bs xs ys=([],1)):=by
    show Bs xs ys=([],1);unfold Bs;rw[fl (fun h=>s h.1)]
   go_enter func18,ntmps18
   go_wp2_with fail
   refine(AU k).mono ?_;rintro e y ⟨rfl,f⟩;go_wp2
   go_ret2
   rw[j.out];exact⟨none,0,0,rfl,f,Own.nil _ _ _⟩
def BR(xs:List Int):Nat->List Int
 | 0=>List.replicate xs.length 0
 | k+1=>(BR xs k).set (xs.getD k 0).toNat k
end Go.Proofs.YthdbingomfdeoaaGreatDoor
