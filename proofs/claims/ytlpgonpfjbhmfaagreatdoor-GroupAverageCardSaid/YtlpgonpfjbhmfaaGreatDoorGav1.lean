/- Part Gav1. -/
import Derived.WalkKit
import Derived.Lib.Hide
import Derived.Deep.Draws
import Derived.Maps.AppendAt
import Derived.Deep.AppendLies
import Derived.RegionTactic
import Derived.OwnWalk
import Derived.Test.YtlpgonpfjbhmfaaGreatDoorProg
import Derived.Deep.QuietTactic
import Derived.BigQuiet
set_option maxRecDepth 100000
set_option maxHeartbeats 100000000
namespace Go.Proofs.YtlpgonpfjbhmfaaGreatDoor
open Tryz Go Go.RowKit
variable {f:Act} {ops:Array Oper} {Q:Exit→Act→World→Prop} {xss:List (List Int)} {xs ys:List Int} {rest:List Oper} {cs cs' news:List Value} {b' base base' bytes cx k m n n':Nat} {o:Oper} {l s x:Operand} {A a b:Option Addr} {row:Option Nat} {e e' t ty:TypeId} {v z:Value} {w w':World}
universe u
theorem gqq {α:Type u} {l:List α} {i:Nat} {d:α}:l.getD i d=l[i]?.getD d:=List.getD_eq_getElem?_getD
theorem lrf (n:Nat):n≤n:=Nat.le_refl n
def Ext (w w':World):Prop:=Below w.heap.size w w'
theorem Ext.refl (w:World):Ext w w:=Below.refl _ _
theorem Ext.trans {a b c:World} (h:Ext a b) (k:Ext b c):Ext a c:=Below.trans h (Below.mono k h.size)
theorem Ext.size {w w':World} (h:Ext w w'):w.heap.size≤w'.heap.size:=Below.size h
theorem Ext.drewN {w w':World} (h:Ext w w') (n:Nat):Ext w (w'.drewN n):=⟨h.os,h.tape,h.output,h.size,h.block⟩
theorem Ext.drew {w w':World} (h:Ext w w'):Ext w w'.drew:=⟨h.os,h.tape,h.output,h.size,h.block⟩
theorem Ext.alloc {w w':World} (h:Ext w w') (o:Obj):Ext w (w'.alloc o):=Below.alloc h h.size o
theorem Ext.setCell {w w':World} (h:Ext w w') {p:Addr} (hp:w.heap.size≤p.block) (u:Value):Ext w (w'.setCell p u):=Below.setCell h hp u
theorem Ext.grown {w w1 w':World} {row:Option Nat} (h:Ext w w1) (hg:w1.grownBy w' row) (hr:∀ k,row=some k→w.heap.size≤k):Ext w w' :=
 Below.grown h hg h.size hr
theorem Ext.block {w w':World} (h:Ext w w') {k:Nat} (hk:k < w.heap.size):w'.heap[k]?=w.heap[k]?:=Below.block h k hk
theorem Ext.cell {w w':World} (h:Ext w w') {p:Addr} {v:Value} (hp:w.cell? p=some v):w'.cell? p=some v:=by
 rw [World.cell?_of_block (w:=w) (h.block (World.block_lt_of_cell? w p hp)),hp]
def Qt (w w':World):Prop:=∃ n,w'=w.drewN n
theorem Qt.refl (w:World):Qt w w:=⟨0,rfl⟩
theorem Qt.drewN {w w':World} (h:Qt w w') (n:Nat):Qt w (w'.drewN n):=by
 obtain ⟨m,rfl⟩:=h;exact ⟨m+n,by rw [World.drewN_drewN]⟩
theorem Qt.drew {w w':World} (h:Qt w w'):Qt w w'.drew:=h.drewN 1
theorem Qt.trans {a b c:World} (h:Qt a b) (k:Qt b c):Qt a c:=by
 obtain ⟨m,rfl⟩:=k;exact h.drewN m
theorem Qt.ext (h:Qt w w'):Ext w w':=by
 obtain ⟨m,rfl⟩:=h;exact (Ext.refl w).drewN m
theorem GD {a b:Bool} (h:b=a):Ending.returned (.bool a) = .returned (.bool b):=by rw [h]
theorem D0 {k:IntKind} {a b:Int} (h:b=a):Ending.returned (.int k a) = .returned (.int k b):=by rw [h]
structure Sl (w:World) (a:Option Addr) (n c:Nat) (cs:List Value):Prop where
 len:cs.length=n
 cap:n≤c
 max:c≤maxLen
 rd:0 < n→∃ b off,a=some ⟨b,off,none⟩∧∀ i,i < n→w.cell? ⟨b,off+i,none⟩=some (cs.getD i undef)
theorem Sl.ext {c:Nat} (h:Sl w a n c cs) (e:Ext w w'):Sl w' a n c cs :=
 ⟨h.len,h.cap,h.max,fun h0=>let ⟨b,off,ha,hc⟩:=h.rd h0; ⟨b,off,ha,fun i hi=>e.cell (hc i hi)⟩⟩
theorem Sl.nil (w:World):Sl w none 0 0 []:=⟨rfl,lrf _,Nat.zero_le _,fun h=>absurd h (Nat.lt_irrefl _)⟩
def SlI (w:World) (a:Option Addr) (n c:Nat) (xs:List Int):Prop:=Sl w a n c (xs.map (Value.int .i64))
theorem SlI.ext {w w':World} {a:Option Addr} {n c:Nat} {xs:List Int} (h:SlI w a n c xs) (e:Ext w w'):SlI w' a n c xs:=Sl.ext h e
theorem SlI.len {w:World} {a:Option Addr} {n c:Nat} {xs:List Int} (h:SlI w a n c xs):xs.length=n:=by
 have:=Sl.len h; simpa using this
theorem SlI.le {c:Nat} (h:SlI w a n c xs):n≤9223372036854775807:=by
 have h1:=Sl.cap h; have h2:=Sl.max h; unfold maxLen at h2; omega
theorem SlI.at {c:Nat} (h:SlI w a n c xs) {k:Nat} (hk:k < n) :
 ∃ b off,a=some ⟨b,off,none⟩∧∀ i,i < n→w.cell? ⟨b,off+i,none⟩=some (.int .i64 (xs.getD i 0)):=by
 obtain ⟨b,off,ha,hc⟩:=Sl.rd h (by omega);refine ⟨b,off,ha,fun i hi => ?_⟩;rw [hc i hi];have hl:=h.len;have hi':i < xs.length:=by omega
 simp [hi']
def SlL (w:World) (a:Option Addr) (n c:Nat) (xss:List (List Int)):Prop :=
 xss.length=n∧∃ cs,Sl w a n c cs∧∀ i,i < n→∃ a' n' c',cs.getD i undef = .slice a' n' c'∧SlI w a' n' c' (xss.getD i [])
theorem SlL.ext {w w':World} {a:Option Addr} {n c:Nat} {xss:List (List Int)} (h:SlL w a n c xss) (e:Ext w w'):SlL w' a n c xss:=by
 obtain ⟨hl,cs,h1,h2⟩:=h;exact ⟨hl,cs,h1.ext e,fun i hi=>let ⟨a',n',c',h3,h4⟩:=h2 i hi; ⟨a',n',c',h3,h4.ext e⟩⟩
theorem SlL.len {c:Nat} (h:SlL w a n c xss):xss.length=n:=h.1
theorem SlL.le {c:Nat} (h:SlL w a n c xss):n≤9223372036854775807:=by
 obtain ⟨_,cs,h,_⟩:=h;have h1:=Sl.cap h; have h2:=Sl.max h; unfold maxLen at h2; omega
theorem SlL.at {c:Nat} (h:SlL w a n c xss) {k:Nat} (hk:k < n) :
 ∃ b off a' n' c',a=some ⟨b,off,none⟩∧w.cell? ⟨b,off+k,none⟩=some (.slice a' n' c')∧SlI w a' n' c' (xss.getD k []):=by
 obtain ⟨hl,cs,h1,h2⟩:=h;obtain ⟨b,off,ha,hc⟩:=h1.rd (by omega);obtain ⟨a',n',c',h3,h4⟩:=h2 k hk;exact ⟨b,off,a',n',c',ha,by rw [hc k hk,h3],h4⟩
theorem Sl.of_owns {c:Nat} (h:w.ownsRow base e 1 (.slice a n c) n' cs):Sl w a n c cs:=by
 obtain ⟨hl,h⟩:=h;rcases h with ⟨hv,hn⟩ | ⟨g,cap,cur,hv,hb,hh,hnc,hm,hs,ht⟩
 · simp only [Value.slice.injEq] at hv;obtain ⟨rfl,rfl,rfl⟩:=hv;subst hn;have:cs=[]:=by simpa using hl
   subst this;exact Sl.nil w
 · simp only [Value.slice.injEq] at hv;obtain ⟨rfl,rfl,rfl⟩:=hv;refine ⟨by simpa using hl,hnc,hm,fun _=>⟨g,0,rfl,fun i hi => ?_⟩⟩;have hl':cs.length=n:=by simpa using hl
   have e1:cs.getD i undef=cur.toList.getD i undef:=by
    rw [←ht];simp [hi]
   have hi2:i < cur.size:=by omega
   rw [e1];simp [World.cell?,hh,hi2]
theorem MU {size:Nat} {xs:List Value} (h:w.ownsRow base e size v n xs) (k:Ext w w'):w'.ownsRow base e size v n xs:=by
 obtain ⟨h1,h2⟩:=h;refine ⟨h1, ?_⟩;rcases h2 with h2 | ⟨g,cap,cur,hv,hg,hh,r⟩
 · exact Or.inl h2
 · refine Or.inr ⟨g,cap,cur,hv,hg, ?_,r⟩;have hlt:g < w.heap.size:=by
    rcases Nat.lt_or_ge g w.heap.size with h | h
    · exact h
    · simp [Array.getElem?_eq_none h] at hh
   rw [k.block hlt,hh]
def Own (w:World) (base:Nat) (e:TypeId) (a:Option Addr) (n c:Nat) (cs:List Value):Prop:=w.ownsRow base e 1 (.slice a n c) n cs
def Bh (P:Program) (e:TypeId) (z:Value) (bytes:Nat):Prop :=
 (P.info? e).map (fun i=>(i.zero,i.size,i.bytes))=some (some z,1,bytes)
def blk (a:Option Addr):Option Nat:=a.map (·.block)
section
variable {w w':World} {base:Nat} {e:TypeId} {a:Option Addr} {n c:Nat} {cs:List Value}
theorem Own.sl (h:Own w base e a n c cs):Sl w a n c cs:=Sl.of_owns h
theorem Own.ext (h:Own w base e a n c cs) (k:Ext w w'):Own w' base e a n c cs:=MU h k
theorem Own.len (h:Own w base e a n c cs):cs.length=n:=h.sl.len
theorem Own.cap (h:Own w base e a n c cs):n≤c:=h.sl.cap
theorem Own.nil (w:World) (base:Nat) (e:TypeId):Own w base e none 0 0 []:=World.ownsRow_nil w base e 1
theorem Own.lt (h:Own w base e a n c cs) {k:Nat} (hk:blk a=some k):base≤k∧k < w.heap.size:=by
 refine World.ownsRow.lt h k ?_;cases a with
 | none=>simp [blk] at hk
 | some b=>simpa [blk,Value.ownBlock] using hk
theorem Own.mono (h:Own w base e a n c cs) (hb:base'≤base):Own w base' e a n c cs:=by
 obtain ⟨h1,h2⟩:=h;refine ⟨h1, ?_⟩;rcases h2 with h2 | ⟨g,cap,cur,hv,hg,r⟩
 · exact Or.inl h2
 · exact Or.inr ⟨g,cap,cur,hv,by omega,r⟩
theorem Own.kept {row:Option Nat} (h:Own w base e a n c cs) (hg:w.grownBy w' row) (hne:blk a=none∨blk a≠row):Own w' base e a n c cs:=by
 refine World.ownsRow.kept h hg ?_;cases a with
 | none=>left; rfl
 | some b=>right; rcases hne with h | h
           · simp [blk] at h
           · simpa [blk,Value.ownBlock] using h
theorem Own.drewN (h:Own w base e a n c cs) (k:Nat):Own (w.drewN k) base e a n c cs:=h
theorem Own.alloc (h:Own w base e a n c cs) (o:Obj):Own (w.alloc o) base e a n c cs:=World.ownsRow.alloc h o
theorem Own.place (h:Own w base e a n c cs) (hn:0 < n):∃ g,a=some ⟨g,0,none⟩∧base≤g∧g < w.heap.size:=by
 rcases h.2 with ⟨_,h0⟩ | ⟨g,cap,cur,hv,hg,hh,_⟩
 · omega
 · simp only [Value.slice.injEq] at hv;refine ⟨g,hv.1,hg, ?_⟩;rcases Nat.lt_or_ge g w.heap.size with h | h
   · exact h
   · simp [Array.getElem?_eq_none h] at hh
end
section
variable {w:World} {base:Nat} {e:TypeId} {g n c:Nat} {cs:List Value}
theorem Own.cellAt (h:Own w base e (some ⟨g,0,none⟩) n c cs) {j:Nat} (hj:j < n):w.cell? ⟨g,j,none⟩=some (cs.getD j undef):=by
 have h1:=World.ownsRow.cellAt h j (by omega);have h2:j < cs.length:=by have:=h.len; omega
 rw [h1];simp [h2]
theorem Own.frozenAt (h:Own w base e (some ⟨g,0,none⟩) n c cs) (j:Nat):w.frozen? ⟨g,j,none⟩=false:=World.ownsRow.frozenAt h j
theorem Own.stored (h:Own w base e (some ⟨g,0,none⟩) n c cs) (j:Nat) (u:Value) :
 Own (w.setCell ⟨g,j,none⟩ u) base e (some ⟨g,0,none⟩) n c (cs.set j u):=(World.ownsRow.stored h j u).1
end
theorem Au (w:World) (base:Nat) (e:TypeId) (cs:Array Value) (n:Nat) (hn:cs.size=n) (hb:base≤w.heap.size) (hm:n≤1000000) :
 Own (w.alloc (.cells cs e)) base e (some ⟨w.heap.size,0,none⟩) n n cs.toList:=by
 subst hn;exact World.ownsRow_lit w cs cs.size hb (by unfold maxLen; omega) (by omega)
theorem Own.drew {w:World} {base:Nat} {e:TypeId} {a:Option Addr} {n c:Nat} {cs:List Value} (h:Own w base e a n c cs):Own w.drew base e a n c cs:=h
theorem Sl.drew {w:World} {a:Option Addr} {n c:Nat} {cs:List Value} (h:Sl w a n c cs):Sl w.drew a n c cs:=h.ext (Ext.refl w).drew
theorem Sl.alloc {w:World} {a:Option Addr} {n c:Nat} {cs:List Value} (h:Sl w a n c cs) (o:Obj):Sl (w.alloc o) a n c cs:=h.ext ((Ext.refl w).alloc o)
theorem UQ {b:Nat} {g g' c c':Nat} (h:Own w b e (some ⟨g,0,none⟩) n c cs) (h':Own w b' e' (some ⟨g',0,none⟩) n' c' cs') (hc:c≠c'):g≠g':=by
 rintro rfl;rcases h.2 with ⟨hv,_⟩ | ⟨g1,cap1,cur1,hv,_,hh,_,_,hs,_⟩
 · simp at hv
 rcases h'.2 with ⟨hv',_⟩ | ⟨g2,cap2,cur2,hv',_,hh',_,_,hs',_⟩
 · simp at hv'
 simp only [Value.slice.injEq,Option.some.injEq,Addr.mk.injEq,and_true,true_and] at hv hv';obtain ⟨rfl,rfl⟩:=hv;obtain ⟨rfl,rfl⟩:=hv';rw [hh] at hh';simp only [Option.some.injEq,Obj.cells.injEq] at hh';obtain ⟨rfl,_⟩:=hh';omega
theorem Sl.upto {c:Nat} (h:Sl w a n c cs) {k:Nat} (hk:k≤n):Sl w a k c (cs.take k):=by
 refine ⟨by have:=h.len; simp; omega,by have:=h.cap; omega,h.max,fun h0 => ?_⟩;obtain ⟨b,off,ha,hc⟩:=h.rd (by omega);refine ⟨b,off,ha,fun i hi => ?_⟩;rw [hc i (by omega)];simp [hi]
theorem Sl.from {c:Nat} (h:Sl w a n c cs) {k:Nat} (hk:k≤n) :
 Sl w (if c=k then a else a.map (fun x=>x.add k)) (n - k) (c - k) (cs.drop k):=by
 refine ⟨by have:=h.len; simp; omega,by have:=h.cap; omega,by have:=h.max; omega,fun h0 => ?_⟩;obtain ⟨b,off,ha,hc⟩:=h.rd (by omega);subst ha;have hcap:=h.cap;rw [if_neg (by omega)];refine ⟨b,off+k, ?_,fun i hi => ?_⟩
 · simp only [Option.map_some,Addr.add];by_cases h0:k=0 <;> simp [h0]
 · rw [Nat.add_assoc,hc (k+i) (by omega)];simp
theorem Ao (w:World) (g j:Nat) (u:Value):w.grownBy (w.setCell ⟨g,j,none⟩ u) (some g) :=
 ⟨rfl,rfl,rfl,by simp [World.setCell],fun k _ hne=>by
  simp only [World.setCell,Array.getElem?_modify]
  rw [if_neg (by rintro rfl; exact hne rfl)]⟩
def Arr (w:World) (g:Nat) (t:TypeId) (cs:List Value):Prop:=w.heap[g]?=some (.cells cs.toArray t (0,0))
section
variable {w w':World} {g:Nat} {t:TypeId} {cs:List Value}
theorem Arr.lt (h:Arr w g t cs):g < w.heap.size:=by
 rcases Nat.lt_or_ge g w.heap.size with hlt | hge
 · exact hlt
 · unfold Arr at h; rw [Array.getElem?_eq_none hge] at h; cases h
theorem Arr.cell (h:Arr w g t cs) {i:Nat} (hi:i < cs.length):w.cell? ⟨g,i,none⟩=some (cs.getD i undef):=by
 unfold Arr at h;simp [World.cell?,h,hi]
theorem Arr.c (h:Arr w g t cs) (i:Nat) {v:Value} (hv:cs[i]?=some v):w.cell? ⟨g,i,none⟩=some v:=by
 rw [h.cell (i:=i) (by rcases Nat.lt_or_ge i cs.length with h | h; exact h; simp [List.getElem?_eq_none h] at hv),gqq,hv]; rfl
theorem Arr.frozen (h:Arr w g t cs) (i:Nat):w.frozen? ⟨g,i,none⟩=false:=by
 unfold Arr at h;simp [World.frozen?,h]
theorem Arr.new (w:World) (t:TypeId) (cs:List Value):Arr (w.alloc (.cells cs.toArray t)) w.heap.size t cs:=heap_alloc_new w _
theorem Arr.set (h:Arr w g t cs) (i:Nat) (u:Value):Arr (w.setCell ⟨g,i,none⟩ u) g t (cs.set i u):=by
 unfold Arr at h ⊢;simp [World.setCell,Array.getElem?_modify,h]
theorem Arr.sl (h:Arr w g t cs) {k:Nat} (hk:k≤cs.length) (hm:cs.length≤maxLen):Sl w (some ⟨g,0,none⟩) k cs.length (cs.take k):=by
 refine ⟨by simp; omega,hk,hm,fun _=>⟨g,0,rfl,fun i hi => ?_⟩⟩;rw [Nat.zero_add,h.cell (by omega)];simp [hi]
theorem Arr.ext (h:Arr w g t cs) (k:Ext w w'):Arr w' g t cs:=(k.block h.lt).trans h
theorem Arr.kept (h:Arr w g t cs) (hb:w.grownBy w' row) (hg:some g≠row):Arr w' g t cs:=(hb.block g h.lt hg).trans h
theorem Arr.drewN (h:Arr w g t cs) (n:Nat):Arr (w.drewN n) g t cs:=h
theorem Arr.alloc (h:Arr w g t cs) (o:Obj):Arr (w.alloc o) g t cs:=(Below.heap_alloc w o g h.lt).trans h
theorem Arr.far (h:Arr w g t cs) {p:Addr} (hp:g≠p.block) (u:Value):Arr (w.setCell p u) g t cs:=(Below.heap_setCell w p u g hp).trans h
end
section
variable {P:Program} {w:World}
theorem Pn {c:Nat} {xs:List Value} 
 (ht:P.underlying t=some (.slice e)) (hinfo:Bh P e z bytes) (hz1:z.cells.size=1) (hown:Own w base e a n c xs) (hsl:Sl w A m cx news)
 (h1:∀ u∈news,u.oneCell'=true) (h63:n+m≤maxLen) (hbytes:(n+m)*bytes≤140737488355328) (hbase:base≤w.heap.size) :
 ∃ a' c' w',(Builtin.append_ #[t,t] ty #[.slice a n c, .slice A m cx]).run P w = .ok (.slice a' (n+m) c') w'∧Own w' base e a' (n+m) c' (xs ++ news) ∧
  w.grownBy w' (blk a)∧(blk a'=blk a∨blk a'=some w.heap.size):=by
 obtain ⟨i,hi,hz,hsize,hby⟩:=info_parts hinfo;have hob:(Value.slice a n c).ownBlock=blk a:=by cases a <;> rfl
 rcases A with _ | ad
 · have hm:m=0:=by
    rcases Nat.eq_zero_or_pos m with h0 | h0
    · exact h0
    · obtain ⟨b,o,h,_⟩:=hsl.rd h0;cases h
   subst hm;have hn:news=[]:=List.eq_nil_of_length_eq_zero hsl.len;subst hn;refine ⟨a,c,w, ?_,by simpa using hown,World.grownBy.refl w _, .inl rfl⟩;rcases hown.2 with ⟨hv,rfl⟩ | ⟨g,cap,cur,hv,_,_,hnc,_⟩
   · simp only [Value.slice.injEq] at hv;obtain ⟨rfl,_,rfl⟩:=hv;simp [Builtin.append_,run_underlying ht,sizeOf,typeInfo,hi,Builtin.lenOf,Builtin.firstCells]
   · simp only [Value.slice.injEq] at hv;obtain ⟨rfl,_,rfl⟩:=hv;simp [Builtin.append_,run_underlying ht,sizeOf,typeInfo,hi,Builtin.lenOf,Builtin.firstCells,hnc,storeCells]
 · have hcells:∀ j u,news[j]?=some u→w.cell? (ad.add j)=some u:=by
    intro j u hu;have hj:j < news.length:=by
     rcases Nat.lt_or_ge j news.length with h | h
     · exact h
     · simp [List.getElem?_eq_none h] at hu
    have hjm:j < m:=by have:=hsl.len; omega
    obtain ⟨b,o,h,hc⟩:=hsl.rd (by omega);injection h with h;subst h;have h2:=hc j hjm;have h3:news.getD j undef=u:=by rw [gqq,hu]; rfl
    rw [h3] at h2;rw [←h2];unfold Addr.add;by_cases h0:j=0 <;> simp [h0]
   obtain ⟨v',w',hrun,h2,h3,_,h5⟩:=run_append_own_at (P:=P) w base t ty e i z 1 bytes ht hi hz hsize hby hz1 (by omega) (.slice a n c) n xs hown ad m cx news (by have:=hsl.len; omega) hcells h1 h63 hbytes hbase;rcases h2.2 with ⟨hv,h0⟩ | ⟨g,cap,cur,hv,_⟩
   · subst hv;refine ⟨none,0,w',by rw [hrun,h0], ?_,by rw [←hob]; exact h3,by rw [←hob]; exact h5⟩;unfold Own;rw [h0] at h2 ⊢;exact h2
   · subst hv;exact ⟨_,cap,w',hrun,h2,by rw [←hob]; exact h3,by rw [←hob]; exact h5⟩
theorem UR {K:Act→World→Prop} 
 (ho:o.op = .call { callee := .builtin .append,args:=#[s,x],argTypes:=#[t,t] })
 {e:TypeId} {z:Value} {bytes base:Nat} {a:Option Addr} {n c:Nat} {xs:List Value} {A:Option Addr} {m cx:Nat} {news:List Value}
 (ht:P.underlying t=some (.slice e)) (hinfo:Bh P e z bytes) (hz1:z.cells.size=1) (hs:f.eval s = .slice a n c) (hown:Own w base e a n c xs) (hx:f.eval x = .slice A m cx) (hsl:Sl w A m cx news)
 (h1:∀ u∈news,u.oneCell'=true) (h63:n+m≤maxLen) (hbytes:(n+m)*bytes≤140737488355328) (hbase:base≤w.heap.size)
 (h:∀ a' c' w',Own w' base e a' (n+m) c' (xs ++ news)→w.grownBy w' (blk a)→(blk a'=blk a∨blk a'=some w.heap.size)→K (f.put o.dst (.slice a' (n+m) c')) w'):o.wp P f w K Q:=by
 obtain ⟨a',c',w',hrun,h2,h3,h4⟩:=Pn (P:=P) (ty:=o.type) ht hinfo hz1 hown hsl h1 h63 hbytes hbase;unfold Oper.wp execOp;simp only [ho,resolve,invoke,builtin,Sem.run_bind,Sem.run_pure,Result.andThen_ok,List.map_toArray,List.map_cons,List.map_nil,hs,hx,hrun];exact h a' c' w' h2 h3 h4
theorem Bw (hgd:o.guard=none)
 (ho:o.op = .call { callee := .builtin .append,args:=#[s,x],argTypes:=#[t,t] })
 {e:TypeId} {z:Value} {bytes base:Nat} {a:Option Addr} {n c:Nat} {xs:List Value} {A:Option Addr} {m cx:Nat} {news:List Value}
 (ht:P.underlying t=some (.slice e)) (hinfo:Bh P e z bytes) (hz1:z.cells.size=1) (hs:f.eval s = .slice a n c) (hown:Own w base e a n c xs) (hx:f.eval x = .slice A m cx) (hsl:Sl w A m cx news)
 (h1:∀ u∈news,u.oneCell'=true) (h63:n+m≤maxLen) (hbytes:(n+m)*bytes≤140737488355328) (hbase:base≤w.heap.size)
 (h:∀ a' c' w',Own w' base e a' (n+m) c' (xs ++ news)→w.grownBy w' (blk a)→(blk a'=blk a∨blk a'=some w.heap.size)→wpList P ops Q rest (f.put o.dst (.slice a' (n+m) c')) w') :
 wpList P ops Q (o :: rest) f w :=
 wpList_plain hgd fun _ hK=>UR ho ht hinfo hz1 hs hown hx hsl h1 h63 hbytes hbase fun a' c' w' h2 h3 h4=>hK _ _ (h a' c' w' h2 h3 h4)
theorem US (ht:P.underlying t=some (.slice e)) (hinfo:Bh P e z bytes) (hz1:z.cells=#[z]) (hb:bytes*n≤281474976710656) (h63:n≤maxLen) :
 ∃ w',(Instr.makeSlice t (.int .i64 n) (.int .i64 n)).run P w = .ok (.slice (some ⟨w.heap.size,0,none⟩) n n) w'∧Own w' w.heap.size e (some ⟨w.heap.size,0,none⟩) n n (List.replicate n z)∧Ext w w':=by
 obtain ⟨i,hi,hz,hsize,hby⟩:=info_parts hinfo;obtain ⟨w',h1,h2,h3⟩:=run_make_full (P:=P) w w.heap.size t e i z 1 ht hi hz hsize .i64 .i64 n (by rw [hby]; exact hb) h63 (lrf _);refine ⟨w',h1, ?_,(Ext.refl w).grown h3 (by simp)⟩;rw [Nat.mul_one,hz1,toList_madeCells_one] at h2;exact h2
theorem Eg {c:Operand} (hg:o.guard=none) (hop:o.op=Op.makeSlice t l c)
 {e:TypeId} {z:Value} {bytes n:Nat} (ht:P.underlying t=some (.slice e)) (hinfo:Bh P e z bytes) (hz1:z.cells=#[z]) (hl:f.eval l = .int .i64 n) (hc:f.eval c = .int .i64 n)
 (hb:bytes*n≤281474976710656) (h63:n≤maxLen)
 (hK:∀ w',Own w' w.heap.size e (some ⟨w.heap.size,0,none⟩) n n (List.replicate n z)→Ext w w'→wpList P ops Q rest (f.put o.dst (.slice (some ⟨w.heap.size,0,none⟩) n n)) w') :
 wpList P ops Q (o :: rest) f w:=by
 refine wpList_plain hg fun K hK' => ?_;obtain ⟨w',hrun,h2,h3⟩:=US (P:=P) (w:=w) ht hinfo hz1 hb h63;unfold Oper.wp execOp;simp only [hop,Sem.run_bind,Sem.run_pure,Result.andThen_ok,hl,hc,hrun,Oper.upon];exact hK' _ _ (hK w' h2 h3)
end
theorem Bz:Bh prog 3 (.int .i64 0) 8:=by unfold Bh; kernel_rfl
def CT (w:World) (base:Nat) (a:Option Addr) (n c:Nat) (xs:List Int):Prop:=Own w base 3 a n c (xs.map (Value.int .i64))
theorem CT.sl {w:World} {base:Nat} {a:Option Addr} {n c:Nat} {xs:List Int} (h:CT w base a n c xs):SlI w a n c xs:=Own.sl h
theorem CT.ext {w w':World} {base:Nat} {a:Option Addr} {n c:Nat} {xs:List Int} (h:CT w base a n c xs) (k:Ext w w'):CT w' base a n c xs:=Own.ext h k
def Po (w:World) (xs:List Int) (e:Ending) (w':World):Prop :=
 ∃ a n c,e = .returned (.slice a n c)∧Ext w w'∧CT w' w.heap.size a n c xs
theorem Ry {α:Type} (L:List α) (z v:α) (r:Nat):(L ++ List.replicate (r+1) z).set L.length v=(L ++ [v]) ++ List.replicate r z:=by
 rw [List.set_append_right _ _ (lrf _)];simp [List.replicate_succ]
def idn (n:Nat):List Int:=(List.range n).map Int.ofNat
def comp (xs ys:List Int):List Int:=ys.map (fun y=>xs.getD y.toNat 0)
theorem Dw (n:Nat):(idn n).length=n:=by simp [idn]
theorem Rz (n:Nat):idn (n+1)=idn n ++ [(n:Int)]:=by simp [idn,List.range_succ]
theorem B6 (xs ys:List Int):(comp xs ys).length=ys.length:=by simp [comp]
def GE (n:Nat) (xs:List Int):List Int:=xs ++ List.replicate (n - xs.length) 0
theorem La (n:Nat):(GE n []).map (Value.int .i64)=List.replicate n (Value.int .i64 0):=by simp [GE]
theorem Jm (h:n≤xs.length):GE n xs=xs:=by simp [GE,Nat.sub_eq_zero_of_le h]
theorem Lb (hk:xs.length=k) (h:k < n) (x:Int) :
 ((GE n xs).map (Value.int .i64)).set k (Value.int .i64 x)=(GE n (xs ++ [x])).map (Value.int .i64):=by
 have e:n - xs.length=(n - (xs ++ [x]).length)+1:=by simp; omega
 rw [←List.map_set,←hk];unfold GE;rw [e,Ry]
theorem Jn (hn:n≤1000000) :
 Calls prog 122 #[.int .i64 n] w (Po w (idn n)):=by
 go_enter func122,ntmps122
 go_wp2_with (at_make; refine Eg rfl rfl underlying22 Bz rfl rfl rfl (by omega) (by unfold maxLen; omega) ?_; intro w1 hO1 hE1)
 go_loopw [9] (fun i wr=>∃ k:Nat,k≤n∧i = .int .i64 k∧Ext w wr∧CT wr w.heap.size (some ⟨w.heap.size,0,none⟩) n n (GE n (idn k))) (fun i _=>n - (intOf i).toNat)
 case atStart=>exact ⟨0,Nat.zero_le _,rfl,hE1,by unfold CT; rw [show idn 0=[] from rfl,La]; exact hO1⟩
 case round =>
  clear hO1 hE1;obtain ⟨k,hk,rfl,hE,hO⟩:=hrel;by_cases hlt:k < n
  · have g1:=Own.cellAt hO hlt;have g2:=Own.frozenAt hO k;have hz:=hE.size;go_wp2;go_roundw
    case rel =>
     refine ⟨k+1,by omega,by go_num,hE.setCell (lrf _) _, ?_⟩;have:=Own.stored hO k (.int .i64 k);rw [Lb (Dw k) hlt,←Rz] at this;exact this
    case measure=>simp [intOf]; omega
  · have e:k=n:=by omega
    go_wp2;go_ret;subst e;rw [Jm (by rw [Dw]; exact lrf _)] at hO;exact ⟨_,_,_,rfl,hE,hO⟩
theorem F5 {c d:Nat} (hx:SlI w a n c xs) (hy:SlI w b m d ys)
 (hin:∀ i,i < m→0≤ys.getD i 0∧ys.getD i 0 < n) (hm:m≤1000000) :
 Calls prog 38 #[.slice a n c, .slice b m d] w (Po w (comp xs ys)):=by
 have hnn:=hx.le
 go_enter func38,ntmps38
 go_wp2_with (at_make; refine Eg rfl rfl underlying22 Bz rfl rfl rfl (by omega) (by unfold maxLen; omega) ?_; intro w1 hO1 hE1)
 go_loopw [13] (fun i wr=>∃ k:Nat,k≤m∧i = .int .i64 k∧Ext w wr∧CT wr w.heap.size (some ⟨w.heap.size,0,none⟩) m m (GE m (comp xs (ys.take k)))) (fun i _=>m - (intOf i).toNat)
 case atStart=>exact ⟨0,Nat.zero_le _,rfl,hE1,by unfold CT; rw [show comp xs (ys.take 0)=[] from rfl,La]; exact hO1⟩
 case round =>
  clear hO1 hE1;obtain ⟨k,hk,rfl,hE,hO⟩:=hrel;have hx:=hx.ext hE;have hy:=hy.ext hE;by_cases hlt:k < m
  · have g1:=Own.cellAt hO hlt;have g2:=Own.frozenAt hO k;have hz:=hE.size;obtain ⟨b2,o2,rfl,hc2⟩:=hy.at hlt;have g3:=hc2 k hlt;have hik:=hin k hlt;have hyl:=hy.len;have ek:ys.take (k+1)=ys.take k ++ [ys.getD k 0]:=by
     rw [List.take_succ_eq_append_getElem (by omega)];simp [hyl,hlt]
    generalize hyk:ys.getD k 0=y at *
    obtain ⟨b1,o1,rfl,hc1⟩:=hx.at (k:=y.toNat) (by omega);have g4:=hc1 y.toNat (by omega);obtain ⟨y0,y1⟩:=hik;have EK:=Lib.hid ek;clear hc1 hc2 hyk hin hyl ek;go_wp2;go_roundw
    case rel =>
     refine ⟨k+1,by omega,by go_num,hE.setCell (lrf _) _, ?_⟩;have:=Own.stored hO k (.int .i64 (xs.getD y.toNat 0));rw [Lb (by rw [B6]; have:=hy.len; simp; omega) hlt] at this;rw [EK.out];simpa [comp,CT] using this
    case measure=>simp [intOf]; omega
  · have e:k=m:=by omega
    go_wp2;go_ret;subst e;have hyl:=hy.len;rw [List.take_of_length_le (by omega),Jm (by rw [B6]; omega)] at hO;exact ⟨_,_,_,rfl,hE,hO⟩
def Pp (xs:List Int):Prop:=xs.length≤6∧(∀ x∈xs,0≤x∧x < xs.length)∧xs.Nodup
instance (xs:List Int):Decidable (Pp xs):=by unfold Pp; exact inferInstance
def Ar (xs:List Int):Bool:=decide (Pp xs)
def EW (l:List Int):List Value:=(List.range 6).map (fun (j:Nat)=>Value.bool (decide (Int.ofNat j∈l)))
theorem Qj (l:List Int):(EW l).length=6:=by simp [EW]
theorem RA (l:List Int) {j:Nat} (h:j < 6):(EW l).getD j undef = .bool (decide ((j:Int)∈l)):=by
 simp [EW,h]
theorem Qk (l:List Int) {x:Int} (h0:0≤x):(EW l).set x.toNat (.bool true)=EW (l ++ [x]):=by
 apply List.ext_getElem?;intro i;rw [List.getElem?_set];by_cases hi:i < 6
 · by_cases hx:x.toNat=i
   · have:(i:Int)=x:=by omega
     simp [EW,hx,hi,this]
   · have:(i:Int)≠x:=by omega
     simp [EW,hx,hi,this]
 · by_cases hx:x.toNat=i
   · simp [EW,hx,hi]
   · simp [EW,hx,hi]
theorem Ql (h:6 < xs.length):Ar xs=false:=by
 refine decide_eq_false fun hp => ?_;have:=hp.1;omega
theorem RC {xs:List Int} {k:Nat} (hk:k < xs.length) (h:xs.getD k 0 < 0∨(xs.length:Int)≤xs.getD k 0):Ar xs=false:=by
 have hm:xs.getD k 0∈xs:=by simp [hk]
 refine decide_eq_false fun hp => ?_;have:=hp.2.1 _ hm;omega
theorem Ov {xs:List Int} {k:Nat} (hk:k < xs.length) (h:xs.getD k 0∈xs.take k):Ar xs=false:=by
 refine decide_eq_false fun hp => ?_;have hn:=hp.2.2;have e:xs=xs.take k ++ xs.drop k:=(List.take_append_drop k xs).symm;have e2:xs.drop k=xs.getD k 0 :: xs.drop (k+1):=by
  rw [List.drop_eq_getElem_cons hk];simp [hk]
 rw [e,e2,List.nodup_append] at hn;exact hn.2.2 _ h _ (by simp) rfl
def Gg (xs:List Int) (k:Nat):Prop:=(∀ x∈xs.take k,0≤x∧x < xs.length)∧(xs.take k).Nodup
theorem MW {xs:List Int} {k:Nat} (hk:k < xs.length) (h:Gg xs k) (h0:0≤xs.getD k 0) (h1:xs.getD k 0 < xs.length) (hn:xs.getD k 0 ∉ xs.take k):Gg xs (k+1):=by
 have e:xs.take (k+1)=xs.take k ++ [xs.getD k 0]:=by
  rw [List.take_succ_eq_append_getElem hk];simp [hk]
 unfold Gg;rw [e];refine ⟨?_, ?_⟩
 · intro x hx;rcases List.mem_append.1 hx with hx | hx
   · exact h.1 x hx
   · simp only [List.mem_singleton] at hx;subst hx;exact ⟨h0,h1⟩
 · rw [List.nodup_append];refine ⟨h.2,by simp, ?_⟩;intro a ha b hb;simp only [List.mem_singleton] at hb;subst hb;rintro rfl;exact hn ha
theorem Ow (hk:xs.length≤k) (h:Gg xs k) (h6:xs.length≤6):Ar xs=true:=by
 unfold Gg at h;rw [List.take_of_length_le hk] at h;exact decide_eq_true ⟨h6,h.1,h.2⟩
theorem AW {c:Nat} (hx:SlI w a n c xs) :
 Calls prog 37 #[.slice a n c] w fun e w'=>e = .returned (.bool (Ar xs))∧Ext w w':=by
 have hnn:=hx.le;have hl:=hx.len;have HL:=Lib.hid hl;by_cases h6:n≤6
 · clear hl
   go_enter func37,ntmps37
   go_wp2
   go_loopw [11] (fun i wr=>∃ k:Nat,k≤n∧i = .int .i64 k∧Ext w wr∧Arr wr w.heap.size 130 (EW (xs.take k))∧Gg xs k) (fun i _=>n - (intOf i).toNat)
   case atStart=>exact ⟨0,Nat.zero_le _,rfl,(Ext.refl w).alloc _,Arr.new w _ (EW []),by simp [Gg]⟩
   case round =>
    obtain ⟨k,hk,rfl,hE,hA,hG⟩:=hrel;have hx:=hx.ext hE;by_cases hlt:k < n
    · obtain ⟨b2,o2,rfl,hc2⟩:=hx.at hlt;have g3:=hc2 k hlt;have hkl:k < xs.length:=by have:=HL.out; omega
      have ek:xs.take (k+1)=xs.take k ++ [xs.getD k 0]:=by
       rw [List.take_succ_eq_append_getElem hkl];simp [hkl]
      have po:=@RC xs k hkl;have pt:=@Ov xs k hkl;have ps:=@MW xs k hkl hG;generalize hyk:xs.getD k 0=y at *
      have EK:=Lib.hid ek;have PO:=Lib.hid po;have PT:=Lib.hid pt;have PS:=Lib.hid ps;clear hc2 hyk ek po pt ps;by_cases hy0:y < 0
      · go_wp2;go_ret;exact ⟨GD (PO.out (Or.inl hy0)),hE⟩
      · by_cases hy1:(n:Int)≤y
        · go_wp2;go_ret;exact ⟨GD (PO.out (Or.inr (by have:=HL.out; omega))),hE⟩
        · have hy6:y.toNat < 6:=by omega
          have hy6':y < 6:=by omega
          have hcy:=hA.cell (i:=y.toNat) (by rw [Qj]; exact hy6);have hfy:=hA.frozen y.toNat
          rw [RA _ hy6,show ((y.toNat:Nat):Int)=y from by omega] at hcy;by_cases hs:y∈xs.take k
          · simp only [hs,decide_true] at hcy;go_wp2;go_ret;exact ⟨GD (PT.out hs),hE⟩
          · simp only [hs,decide_false] at hcy;go_wp2;go_roundw
            case rel =>
             refine ⟨k+1,by omega,by go_num,hE.setCell (lrf _) _, ?_,PS.out (by omega) (by have:=HL.out; omega) hs⟩;have:=hA.set y.toNat (.bool true);rw [Qk _ (by omega),←EK.out] at this;exact this
            case measure=>simp [intOf]; omega
    · go_wp2;go_ret;exact ⟨GD (Ow (by have:=HL.out; omega) hG (by have:=HL.out; omega)),hE⟩
 · clear hl
   go_enter func37,ntmps37
   go_wp2;go_ret;exact ⟨GD (Ql (by have:=HL.out; omega)),Ext.refl w⟩
theorem Tz {n m:Int} (hm:0 < m):(n.tmod m < 0→n.tmod m+m=n % m)∧(¬ n.tmod m < 0→n.tmod m=n % m) ∧ -m < n.tmod m∧n.tmod m < m:=by
 have e:n % m=(n.tmod m) % m:=by
  have h:=Int.mul_tdiv_add_tmod n m;generalize n.tdiv m=q at *
  generalize n.tmod m=r at *
  rw [←h,Int.mul_add_emod_self_left]
 have l1:n.tmod m < m:=Int.tmod_lt_of_pos n hm;have l2 : -m < n.tmod m:=by
  have h:=Int.tmod_lt_of_pos (-n) hm;rw [Int.neg_tmod] at h;omega
 generalize n.tmod m=r at *
 refine ⟨fun h => ?_,fun h => ?_,l2,l1⟩
 · rw [e,←Int.add_emod_right,Int.emod_eq_of_lt (by omega) (by omega)]
 · rw [e,Int.emod_eq_of_lt (by omega) (by omega)]
theorem RD {n m:Int} (hm:0 < m) (hm2:m≤1000000) :
 Calls prog 36 #[.int .i64 n, .int .i64 m] w fun e w'=>e = .returned (.int .i64 (n % m))∧w=w':=by
 have hne:(m == 0)=false:=by simp; omega
 obtain ⟨c1,c2,c3,c4⟩:=@Tz n m hm;have C1:=Lib.hid c1;have C2:=Lib.hid c2;clear c1 c2
 go_enter func36,ntmps36
 go_wp2
 · go_ret;exact ⟨D0 (C1.out (by assumption)).symm,rfl⟩
 · go_ret;exact ⟨D0 (C2.out (by omega)).symm,rfl⟩
end Go.Proofs.YtlpgonpfjbhmfaaGreatDoor
