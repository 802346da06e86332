/- Part Rin1. -/
import Derived.WalkKit
import Derived.Lib.Hide
import Derived.Deep.Draws
import Derived.Maps.AppendAt
import Derived.Deep.AppendLies
import Derived.RegionTactic
import Derived.OwnWalk
import Derived.Laws.Rows
import Derived.Laws.Tables
import Derived.Laws.CopyRow
import Derived.Laws.IdiomCopy
set_option maxRecDepth 100000
set_option maxHeartbeats 100000000
namespace Go.Proofs.YtlpgonpfjbhmfaaGreatDoor
open Go Go.RowKit
def Ext (w w':World):Prop:=Below w.heap.size w w'
theorem Ext.refl (w:World):Ext w w:=Below.refl _ _
theorem Ext.trans {a b c:World} (h:Ext a b) (k:Ext b c):Ext a c:=Below.trans h (Below.mono k h.size)
theorem Ext.size {w w':World} (h:Ext w w'):w.heap.size≤w'.heap.size:=Below.size h
theorem Ext.drewN {w w':World} (h:Ext w w') (n:Nat):Ext w (w'.drewN n):=⟨h.os,h.tape,h.output,h.size,h.block⟩
theorem Ext.drew {w w':World} (h:Ext w w'):Ext w w'.drew:=⟨h.os,h.tape,h.output,h.size,h.block⟩
theorem Ext.alloc {w w':World} (h:Ext w w') (o:Obj):Ext w (w'.alloc o):=Below.alloc h h.size o
theorem Ext.setCell {w w':World} (h:Ext w w') {p:Addr} (hp:w.heap.size≤p.block) (u:Value):Ext w (w'.setCell p u):=Below.setCell h hp u
theorem Ext.grown {w w1 w':World} {row:Option Nat} (h:Ext w w1) (hg:w1.grownBy w' row) (hr:∀ k,row=some k→w.heap.size≤k):Ext w w' :=
 Below.grown h hg h.size hr
theorem Ext.block {w w':World} (h:Ext w w') {k:Nat} (hk:k < w.heap.size):w'.heap[k]?=w.heap[k]?:=Below.block h k hk
theorem Ext.cell {w w':World} (h:Ext w w') {p:Addr} {v:Value} (hp:w.cell? p=some v):w'.cell? p=some v:=by
 rw [World.cell?_of_block (w:=w) (h.block (World.block_lt_of_cell? w p hp)),hp]
def Qt (w w':World):Prop:=∃ n,w'=w.drewN n
theorem Qt.refl (w:World):Qt w w:=⟨0,rfl⟩
theorem Qt.drewN {w w':World} (h:Qt w w') (n:Nat):Qt w (w'.drewN n):=by
 obtain ⟨m,rfl⟩:=h;exact ⟨m+n,by rw [World.drewN_drewN]⟩
theorem Qt.drew {w w':World} (h:Qt w w'):Qt w w'.drew:=h.drewN 1
theorem Qt.trans {a b c:World} (h:Qt a b) (k:Qt b c):Qt a c:=by
 obtain ⟨m,rfl⟩:=k;exact h.drewN m
theorem Qt.ext {w w':World} (h:Qt w w'):Ext w w':=by
 obtain ⟨m,rfl⟩:=h;exact (Ext.refl w).drewN m
theorem retN {k:IntKind} {a b:Int} (h:b=a):Ending.returned (.int k a) = .returned (.int k b):=by rw [h]
structure Sl (w:World) (a:Option Addr) (n c:Nat) (cs:List Value):Prop where
 len:cs.length=n
 cap:n≤c
 max:c≤maxLen
 rd:0 < n→∃ b off,a=some ⟨b,off,none⟩∧∀ i,i < n→w.cell? ⟨b,off+i,none⟩=some (cs.getD i undef)
theorem Sl.ext {w w':World} {a:Option Addr} {n c:Nat} {cs:List Value} (h:Sl w a n c cs) (e:Ext w w'):Sl w' a n c cs :=
 ⟨h.len,h.cap,h.max,fun h0=>let ⟨b,off,ha,hc⟩:=h.rd h0; ⟨b,off,ha,fun i hi=>e.cell (hc i hi)⟩⟩
theorem Sl.nil (w:World):Sl w none 0 0 []:=⟨rfl,Nat.le_refl _,Nat.zero_le _,fun h=>absurd h (Nat.lt_irrefl _)⟩
def SlI (w:World) (a:Option Addr) (n c:Nat) (xs:List Int):Prop:=Sl w a n c (xs.map (Value.int .i64))
theorem SlI.ext {w w':World} {a:Option Addr} {n c:Nat} {xs:List Int} (h:SlI w a n c xs) (e:Ext w w'):SlI w' a n c xs:=Sl.ext h e
theorem SlI.len {w:World} {a:Option Addr} {n c:Nat} {xs:List Int} (h:SlI w a n c xs):xs.length=n:=by
 have:=Sl.len h; simpa using this
theorem SlI.le {w:World} {a:Option Addr} {n c:Nat} {xs:List Int} (h:SlI w a n c xs):n≤9223372036854775807:=by
 have h1:=Sl.cap h; have h2:=Sl.max h; unfold maxLen at h2; omega
theorem SlI.at {w:World} {a:Option Addr} {n c:Nat} {xs:List Int} (h:SlI w a n c xs) {k:Nat} (hk:k < n) :
 ∃ b off,a=some ⟨b,off,none⟩∧∀ i,i < n→w.cell? ⟨b,off+i,none⟩=some (.int .i64 (xs.getD i 0)):=by
 obtain ⟨b,off,ha,hc⟩:=Sl.rd h (by omega);refine ⟨b,off,ha,fun i hi => ?_⟩;rw [hc i hi];have hl:=h.len;have hi':i < xs.length:=by omega
 simp [List.getD_eq_getElem?_getD,hi']
def SlL (w:World) (a:Option Addr) (n c:Nat) (xss:List (List Int)):Prop :=
 xss.length=n∧∃ cs,Sl w a n c cs∧∀ i,i < n→∃ a' n' c',cs.getD i undef = .slice a' n' c'∧SlI w a' n' c' (xss.getD i [])
theorem SlL.ext {w w':World} {a:Option Addr} {n c:Nat} {xss:List (List Int)} (h:SlL w a n c xss) (e:Ext w w'):SlL w' a n c xss:=by
 obtain ⟨hl,cs,h1,h2⟩:=h;exact ⟨hl,cs,h1.ext e,fun i hi=>let ⟨a',n',c',h3,h4⟩:=h2 i hi; ⟨a',n',c',h3,h4.ext e⟩⟩
theorem SlL.len {w:World} {a:Option Addr} {n c:Nat} {xss:List (List Int)} (h:SlL w a n c xss):xss.length=n:=h.1
theorem SlL.le {w:World} {a:Option Addr} {n c:Nat} {xss:List (List Int)} (h:SlL w a n c xss):n≤9223372036854775807:=by
 obtain ⟨_,cs,h,_⟩:=h;have h1:=Sl.cap h; have h2:=Sl.max h; unfold maxLen at h2; omega
theorem SlL.at {w:World} {a:Option Addr} {n c:Nat} {xss:List (List Int)} (h:SlL w a n c xss) {k:Nat} (hk:k < n) :
 ∃ b off a' n' c',a=some ⟨b,off,none⟩∧w.cell? ⟨b,off+k,none⟩=some (.slice a' n' c')∧SlI w a' n' c' (xss.getD k []):=by
 obtain ⟨hl,cs,h1,h2⟩:=h;obtain ⟨b,off,ha,hc⟩:=h1.rd (by omega);obtain ⟨a',n',c',h3,h4⟩:=h2 k hk;exact ⟨b,off,a',n',c',ha,by rw [hc k hk,h3],h4⟩
theorem Sl.of_owns {w:World} {base:Nat} {e:TypeId} {a:Option Addr} {n n' c:Nat} {cs:List Value} (h:w.ownsRow base e 1 (.slice a n c) n' cs):Sl w a n c cs:=by
 obtain ⟨hl,h⟩:=h;rcases h with ⟨hv,hn⟩ | ⟨g,cap,cur,hv,hb,hh,hnc,hm,hs,ht⟩
 · simp only [Value.slice.injEq] at hv;obtain ⟨rfl,rfl,rfl⟩:=hv;subst hn;have:cs=[]:=by simpa using hl
   subst this;exact Sl.nil w
 · simp only [Value.slice.injEq] at hv;obtain ⟨rfl,rfl,rfl⟩:=hv;refine ⟨by simpa using hl,hnc,hm,fun _=>⟨g,0,rfl,fun i hi => ?_⟩⟩;have hl':cs.length=n:=by simpa using hl
   have e1:cs.getD i undef=cur.toList.getD i undef:=by
    rw [←ht];simp [List.getD_eq_getElem?_getD,hi]
   have hi2:i < cur.size:=by omega
   rw [e1];simp [World.cell?,hh,List.getD_eq_getElem?_getD,hi2]
theorem owns_ext {w w':World} {base:Nat} {e:TypeId} {size:Nat} {v:Value} {n:Nat} {xs:List Value} (h:w.ownsRow base e size v n xs) (k:Ext w w'):w'.ownsRow base e size v n xs:=by
 obtain ⟨h1,h2⟩:=h;refine ⟨h1, ?_⟩;rcases h2 with h2 | ⟨g,cap,cur,hv,hg,hh,r⟩
 · exact Or.inl h2
 · refine Or.inr ⟨g,cap,cur,hv,hg, ?_,r⟩;have hlt:g < w.heap.size:=by
    rcases Nat.lt_or_ge g w.heap.size with h | h
    · exact h
    · simp [Array.getElem?_eq_none h] at hh
   rw [k.block hlt,hh]
def Own (w:World) (base:Nat) (e:TypeId) (a:Option Addr) (n c:Nat) (cs:List Value):Prop:=w.ownsRow base e 1 (.slice a n c) n cs
def Elem1 (P:Program) (e:TypeId) (z:Value) (bytes:Nat):Prop :=
 (P.info? e).map (fun i=>(i.zero,i.size,i.bytes))=some (some z,1,bytes)
def blk (a:Option Addr):Option Nat:=a.map (·.block)
section
variable {w w':World} {base:Nat} {e:TypeId} {a:Option Addr} {n c:Nat} {cs:List Value}
theorem Own.sl (h:Own w base e a n c cs):Sl w a n c cs:=Sl.of_owns h
theorem Own.ext (h:Own w base e a n c cs) (k:Ext w w'):Own w' base e a n c cs:=owns_ext h k
theorem Own.len (h:Own w base e a n c cs):cs.length=n:=h.sl.len
theorem Own.cap (h:Own w base e a n c cs):n≤c:=h.sl.cap
theorem Own.nil (w:World) (base:Nat) (e:TypeId):Own w base e none 0 0 []:=World.ownsRow_nil w base e 1
theorem Own.lt (h:Own w base e a n c cs) {k:Nat} (hk:blk a=some k):base≤k∧k < w.heap.size:=by
 refine World.ownsRow.lt h k ?_;cases a with
 | none=>simp [blk] at hk
 | some b=>simpa [blk,Value.ownBlock] using hk
theorem Own.mono {base':Nat} (h:Own w base e a n c cs) (hb:base'≤base):Own w base' e a n c cs:=by
 obtain ⟨h1,h2⟩:=h;refine ⟨h1, ?_⟩;rcases h2 with h2 | ⟨g,cap,cur,hv,hg,r⟩
 · exact Or.inl h2
 · exact Or.inr ⟨g,cap,cur,hv,by omega,r⟩
theorem Own.kept {row:Option Nat} (h:Own w base e a n c cs) (hg:w.grownBy w' row) (hne:blk a=none∨blk a≠row):Own w' base e a n c cs:=by
 refine World.ownsRow.kept h hg ?_;cases a with
 | none=>left; rfl
 | some b=>right; rcases hne with h | h
           · simp [blk] at h
           · simpa [blk,Value.ownBlock] using h
theorem Own.drewN (h:Own w base e a n c cs) (k:Nat):Own (w.drewN k) base e a n c cs:=h
theorem Own.alloc (h:Own w base e a n c cs) (o:Obj):Own (w.alloc o) base e a n c cs:=World.ownsRow.alloc h o
theorem Own.place (h:Own w base e a n c cs) (hn:0 < n):∃ g,a=some ⟨g,0,none⟩∧base≤g∧g < w.heap.size:=by
 rcases h.2 with ⟨_,h0⟩ | ⟨g,cap,cur,hv,hg,hh,_⟩
 · omega
 · simp only [Value.slice.injEq] at hv;refine ⟨g,hv.1,hg, ?_⟩;rcases Nat.lt_or_ge g w.heap.size with h | h
   · exact h
   · simp [Array.getElem?_eq_none h] at hh
end
section
variable {w:World} {base:Nat} {e:TypeId} {g n c:Nat} {cs:List Value}
theorem Own.cellAt (h:Own w base e (some ⟨g,0,none⟩) n c cs) {j:Nat} (hj:j < n):w.cell? ⟨g,j,none⟩=some (cs.getD j undef):=by
 have h1:=World.ownsRow.cellAt h j (by omega);have h2:j < cs.length:=by have:=h.len; omega
 rw [h1];simp [List.getD_eq_getElem?_getD,h2]
theorem Own.frozenAt (h:Own w base e (some ⟨g,0,none⟩) n c cs) (j:Nat):w.frozen? ⟨g,j,none⟩=false:=World.ownsRow.frozenAt h j
theorem Own.stored (h:Own w base e (some ⟨g,0,none⟩) n c cs) (j:Nat) (u:Value) :
 Own (w.setCell ⟨g,j,none⟩ u) base e (some ⟨g,0,none⟩) n c (cs.set j u):=(World.ownsRow.stored h j u).1
end
theorem own_alloc (w:World) (base:Nat) (e:TypeId) (cs:Array Value) (n:Nat) (hn:cs.size=n) (hb:base≤w.heap.size) (hm:n≤1000000) :
 Own (w.alloc (.cells cs e)) base e (some ⟨w.heap.size,0,none⟩) n n cs.toList:=by
 subst hn;exact World.ownsRow_lit w cs cs.size hb (by unfold maxLen; omega) (by omega)
theorem Own.drew {w:World} {base:Nat} {e:TypeId} {a:Option Addr} {n c:Nat} {cs:List Value} (h:Own w base e a n c cs):Own w.drew base e a n c cs:=h
theorem Sl.drew {w:World} {a:Option Addr} {n c:Nat} {cs:List Value} (h:Sl w a n c cs):Sl w.drew a n c cs:=h.ext (Ext.refl w).drew
theorem Sl.alloc {w:World} {a:Option Addr} {n c:Nat} {cs:List Value} (h:Sl w a n c cs) (o:Obj):Sl (w.alloc o) a n c cs:=h.ext ((Ext.refl w).alloc o)
theorem Sl.upto {w:World} {a:Option Addr} {n c:Nat} {cs:List Value} (h:Sl w a n c cs) {k:Nat} (hk:k≤n):Sl w a k c (cs.take k):=by
 refine ⟨by have:=h.len; simp; omega,by have:=h.cap; omega,h.max,fun h0 => ?_⟩;obtain ⟨b,off,ha,hc⟩:=h.rd (by omega);refine ⟨b,off,ha,fun i hi => ?_⟩;rw [hc i (by omega)];simp [List.getD_eq_getElem?_getD,hi]
theorem Sl.from {w:World} {a:Option Addr} {n c:Nat} {cs:List Value} (h:Sl w a n c cs) {k:Nat} (hk:k≤n) :
 Sl w (if c=k then a else a.map (fun x=>x.add k)) (n - k) (c - k) (cs.drop k):=by
 refine ⟨by have:=h.len; simp; omega,by have:=h.cap; omega,by have:=h.max; omega,fun h0 => ?_⟩;obtain ⟨b,off,ha,hc⟩:=h.rd (by omega);subst ha;have hcap:=h.cap;rw [if_neg (by omega)];refine ⟨b,off+k, ?_,fun i hi => ?_⟩
 · simp only [Option.map_some,Addr.add];by_cases h0:k=0 <;> simp [h0]
 · rw [Nat.add_assoc,hc (k+i) (by omega)];simp [List.getD_eq_getElem?_getD]
theorem grown_setCell (w:World) (g j:Nat) (u:Value):w.grownBy (w.setCell ⟨g,j,none⟩ u) (some g) :=
 ⟨rfl,rfl,rfl,by simp [World.setCell],fun k _ hne=>by
  simp only [World.setCell,Array.getElem?_modify]
  rw [if_neg (by rintro rfl; exact hne rfl)]⟩
def Arr (w:World) (g:Nat) (t:TypeId) (cs:List Value):Prop:=w.heap[g]?=some (.cells cs.toArray t (0,0))
section
variable {w w':World} {g:Nat} {t:TypeId} {cs:List Value}
theorem Arr.lt (h:Arr w g t cs):g < w.heap.size:=by
 rcases Nat.lt_or_ge g w.heap.size with hlt | hge
 · exact hlt
 · unfold Arr at h; rw [Array.getElem?_eq_none hge] at h; cases h
theorem Arr.cell (h:Arr w g t cs) {i:Nat} (hi:i < cs.length):w.cell? ⟨g,i,none⟩=some (cs.getD i undef):=by
 unfold Arr at h;simp [World.cell?,h,List.getD_eq_getElem?_getD,hi]
theorem Arr.c (h:Arr w g t cs) (i:Nat) {v:Value} (hv:cs[i]?=some v):w.cell? ⟨g,i,none⟩=some v:=by
 rw [h.cell (i:=i) (by rcases Nat.lt_or_ge i cs.length with h | h; exact h; simp [List.getElem?_eq_none h] at hv),List.getD_eq_getElem?_getD,hv]; rfl
theorem Arr.frozen (h:Arr w g t cs) (i:Nat):w.frozen? ⟨g,i,none⟩=false:=by
 unfold Arr at h;simp [World.frozen?,h]
theorem Arr.new (w:World) (t:TypeId) (cs:List Value):Arr (w.alloc (.cells cs.toArray t)) w.heap.size t cs:=heap_alloc_new w _
theorem Arr.set (h:Arr w g t cs) (i:Nat) (u:Value):Arr (w.setCell ⟨g,i,none⟩ u) g t (cs.set i u):=by
 unfold Arr at h ⊢;simp [World.setCell,Array.getElem?_modify,h]
theorem Arr.sl (h:Arr w g t cs) {k:Nat} (hk:k≤cs.length) (hm:cs.length≤maxLen):Sl w (some ⟨g,0,none⟩) k cs.length (cs.take k):=by
 refine ⟨by simp; omega,hk,hm,fun _=>⟨g,0,rfl,fun i hi => ?_⟩⟩;rw [Nat.zero_add,h.cell (by omega)];simp [List.getD_eq_getElem?_getD,hi]
theorem Arr.ext (h:Arr w g t cs) (k:Ext w w'):Arr w' g t cs:=(k.block h.lt).trans h
theorem Arr.kept {row:Option Nat} (h:Arr w g t cs) (hb:w.grownBy w' row) (hg:some g≠row):Arr w' g t cs:=(hb.block g h.lt hg).trans h
theorem Arr.drewN (h:Arr w g t cs) (n:Nat):Arr (w.drewN n) g t cs:=h
theorem Arr.alloc (h:Arr w g t cs) (o:Obj):Arr (w.alloc o) g t cs:=(Below.heap_alloc w o g h.lt).trans h
theorem Arr.far (h:Arr w g t cs) {p:Addr} (hp:g≠p.block) (u:Value):Arr (w.setCell p u) g t cs:=(Below.heap_setCell w p u g hp).trans h
end
section
variable {P:Program} {w:World}
theorem run_app {t ty e:TypeId} {z:Value} {bytes base:Nat} {a:Option Addr} {n c:Nat} {xs:List Value} {A:Option Addr} {m cx:Nat} {news:List Value}
 (ht:P.underlying t=some (.slice e)) (hinfo:Elem1 P e z bytes) (hz1:z.cells.size=1) (hown:Own w base e a n c xs) (hsl:Sl w A m cx news)
 (h1:∀ u∈news,u.oneCell'=true) (h63:n+m≤maxLen) (hbytes:(n+m)*bytes≤140737488355328) (hbase:base≤w.heap.size) :
 ∃ a' c' w',(Builtin.append_ #[t,t] ty #[.slice a n c, .slice A m cx]).run P w = .ok (.slice a' (n+m) c') w'∧Own w' base e a' (n+m) c' (xs ++ news) ∧
  w.grownBy w' (blk a)∧(blk a'=blk a∨blk a'=some w.heap.size):=by
 obtain ⟨i,hi,hz,hsize,hby⟩:=info_parts hinfo;have hob:(Value.slice a n c).ownBlock=blk a:=by cases a <;> rfl
 rcases A with _ | ad
 · have hm:m=0:=by
    rcases Nat.eq_zero_or_pos m with h0 | h0
    · exact h0
    · obtain ⟨b,o,h,_⟩:=hsl.rd h0;cases h
   subst hm;have hn:news=[]:=List.eq_nil_of_length_eq_zero hsl.len;subst hn;refine ⟨a,c,w, ?_,by simpa using hown,World.grownBy.refl w _, .inl rfl⟩;rcases hown.2 with ⟨hv,rfl⟩ | ⟨g,cap,cur,hv,_,_,hnc,_⟩
   · simp only [Value.slice.injEq] at hv;obtain ⟨rfl,_,rfl⟩:=hv;simp [Builtin.append_,run_underlying ht,sizeOf,typeInfo,hi,Builtin.lenOf,Builtin.firstCells]
   · simp only [Value.slice.injEq] at hv;obtain ⟨rfl,_,rfl⟩:=hv;simp [Builtin.append_,run_underlying ht,sizeOf,typeInfo,hi,Builtin.lenOf,Builtin.firstCells,hnc,storeCells]
 · have hcells:∀ j u,news[j]?=some u→w.cell? (ad.add j)=some u:=by
    intro j u hu;have hj:j < news.length:=by
     rcases Nat.lt_or_ge j news.length with h | h
     · exact h
     · simp [List.getElem?_eq_none h] at hu
    have hjm:j < m:=by have:=hsl.len; omega
    obtain ⟨b,o,h,hc⟩:=hsl.rd (by omega);injection h with h;subst h;have h2:=hc j hjm;have h3:news.getD j undef=u:=by rw [List.getD_eq_getElem?_getD,hu]; rfl
    rw [h3] at h2;rw [←h2];unfold Addr.add;by_cases h0:j=0 <;> simp [h0]
   obtain ⟨v',w',hrun,h2,h3,_,h5⟩:=run_append_own_at (P:=P) w base t ty e i z 1 bytes ht hi hz hsize hby hz1 (by omega) (.slice a n c) n xs hown ad m cx news (by have:=hsl.len; omega) hcells h1 h63 hbytes hbase;rcases h2.2 with ⟨hv,h0⟩ | ⟨g,cap,cur,hv,_⟩
   · subst hv;refine ⟨none,0,w',by rw [hrun,h0], ?_,by rw [←hob]; exact h3,by rw [←hob]; exact h5⟩;unfold Own;rw [h0] at h2 ⊢;exact h2
   · subst hv;exact ⟨_,cap,w',hrun,h2,by rw [←hob]; exact h3,by rw [←hob]; exact h5⟩
theorem wp_app {o:Oper} {f:Act} {K:Act→World→Prop} {Q:Exit→Act→World→Prop} {s x:Operand} {t:TypeId}
 (ho:o.op = .call { callee := .builtin .append,args:=#[s,x],argTypes:=#[t,t] })
 {e:TypeId} {z:Value} {bytes base:Nat} {a:Option Addr} {n c:Nat} {xs:List Value} {A:Option Addr} {m cx:Nat} {news:List Value}
 (ht:P.underlying t=some (.slice e)) (hinfo:Elem1 P e z bytes) (hz1:z.cells.size=1) (hs:f.eval s = .slice a n c) (hown:Own w base e a n c xs) (hx:f.eval x = .slice A m cx) (hsl:Sl w A m cx news)
 (h1:∀ u∈news,u.oneCell'=true) (h63:n+m≤maxLen) (hbytes:(n+m)*bytes≤140737488355328) (hbase:base≤w.heap.size)
 (h:∀ a' c' w',Own w' base e a' (n+m) c' (xs ++ news)→w.grownBy w' (blk a)→(blk a'=blk a∨blk a'=some w.heap.size)→K (f.put o.dst (.slice a' (n+m) c')) w'):o.wp P f w K Q:=by
 obtain ⟨a',c',w',hrun,h2,h3,h4⟩:=run_app (P:=P) (ty:=o.type) ht hinfo hz1 hown hsl h1 h63 hbytes hbase;unfold Oper.wp execOp;simp only [ho,resolve,invoke,builtin,Sem.run_bind,Sem.run_pure,Result.andThen_ok,List.map_toArray,List.map_cons,List.map_nil,hs,hx,hrun];exact h a' c' w' h2 h3 h4
theorem wl_app {ops:Array Oper} {rest:List Oper} {o:Oper} {f:Act} {Q:Exit→Act→World→Prop} {s x:Operand} {t:TypeId} (hgd:o.guard=none)
 (ho:o.op = .call { callee := .builtin .append,args:=#[s,x],argTypes:=#[t,t] })
 {e:TypeId} {z:Value} {bytes base:Nat} {a:Option Addr} {n c:Nat} {xs:List Value} {A:Option Addr} {m cx:Nat} {news:List Value}
 (ht:P.underlying t=some (.slice e)) (hinfo:Elem1 P e z bytes) (hz1:z.cells.size=1) (hs:f.eval s = .slice a n c) (hown:Own w base e a n c xs) (hx:f.eval x = .slice A m cx) (hsl:Sl w A m cx news)
 (h1:∀ u∈news,u.oneCell'=true) (h63:n+m≤maxLen) (hbytes:(n+m)*bytes≤140737488355328) (hbase:base≤w.heap.size)
 (h:∀ a' c' w',Own w' base e a' (n+m) c' (xs ++ news)→w.grownBy w' (blk a)→(blk a'=blk a∨blk a'=some w.heap.size)→wpList P ops Q rest (f.put o.dst (.slice a' (n+m) c')) w') :
 wpList P ops Q (o :: rest) f w :=
 wpList_plain hgd fun _ hK=>wp_app ho ht hinfo hz1 hs hown hx hsl h1 h63 hbytes hbase fun a' c' w' h2 h3 h4=>hK _ _ (h a' c' w' h2 h3 h4)
theorem run_mk {t e:TypeId} {z:Value} {bytes n:Nat} (ht:P.underlying t=some (.slice e)) (hinfo:Elem1 P e z bytes) (hz1:z.cells=#[z]) (hb:bytes*n≤281474976710656) (h63:n≤maxLen) :
 ∃ w',(Instr.makeSlice t (.int .i64 n) (.int .i64 n)).run P w = .ok (.slice (some ⟨w.heap.size,0,none⟩) n n) w'∧Own w' w.heap.size e (some ⟨w.heap.size,0,none⟩) n n (List.replicate n z)∧Ext w w':=by
 obtain ⟨i,hi,hz,hsize,hby⟩:=info_parts hinfo;obtain ⟨w',h1,h2,h3⟩:=run_make_full (P:=P) w w.heap.size t e i z 1 ht hi hz hsize .i64 .i64 n (by rw [hby]; exact hb) h63 (Nat.le_refl _);refine ⟨w',h1, ?_,(Ext.refl w).grown h3 (by simp)⟩;rw [Nat.mul_one,hz1,toList_madeCells_one] at h2;exact h2
theorem wl_mk {ops:Array Oper} {rest:List Oper} {o:Oper} {f:Act} {Q:Exit→Act→World→Prop} {l c:Operand} {t:TypeId} (hg:o.guard=none) (hop:o.op=Op.makeSlice t l c)
 {e:TypeId} {z:Value} {bytes n:Nat} (ht:P.underlying t=some (.slice e)) (hinfo:Elem1 P e z bytes) (hz1:z.cells=#[z]) (hl:f.eval l = .int .i64 n) (hc:f.eval c = .int .i64 n)
 (hb:bytes*n≤281474976710656) (h63:n≤maxLen)
 (hK:∀ w',Own w' w.heap.size e (some ⟨w.heap.size,0,none⟩) n n (List.replicate n z)→Ext w w'→wpList P ops Q rest (f.put o.dst (.slice (some ⟨w.heap.size,0,none⟩) n n)) w') :
 wpList P ops Q (o :: rest) f w:=by
 refine wpList_plain hg fun K hK' => ?_;obtain ⟨w',hrun,h2,h3⟩:=run_mk (P:=P) (w:=w) ht hinfo hz1 hb h63;unfold Oper.wp execOp;simp only [hop,Sem.run_bind,Sem.run_pure,Result.andThen_ok,hl,hc,hrun,Oper.upon];exact hK' _ _ (hK w' h2 h3)
end
def Agg (P:Program) (ty:TypeId) (n:Nat):Prop :=
 (P.underlying ty).map (fun d=>match d with | .struct _ | .array _ _=>true | _=>false)=some true∧(P.info? ty).map (·.size)=some n
theorem Agg.parts {P:Program} {ty:TypeId} {n:Nat} (h:Agg P ty n) :
 ∃ d,P.underlying ty=some d∧(match d with | .struct _ | .array _ _=>true | _=>false)=true∧(P.info? ty).map (·.size)=some n:=by
 obtain ⟨h1,h2⟩:=h;cases hu:P.underlying ty with
 | none=>rw [hu] at h1; cases h1
 | some d =>
  rw [hu] at h1;exact ⟨d,rfl,by simpa using h1,h2⟩
theorem setRow_grown (w:World) (g:Nat) (cs:Array Value):w.grownBy (w.setRow g cs) (some g):=by
 refine ⟨rfl,rfl,rfl,by simp [World.setRow],fun k _ hne => ?_⟩;simp only [World.setRow,Array.getElem?_modify];rw [if_neg (by rintro rfl; exact hne rfl)]
theorem setRow_arr {w:World} {g:Nat} {t:TypeId} {cs:List Value} (h:Arr w g t cs) (vs:List Value):Arr (w.setRow g vs.toArray) g t vs:=by
 unfold Arr at h ⊢;simp [World.setRow,Array.getElem?_modify,h]
section
variable {P:Program} {w:World}
theorem run_loadArr {ty:TypeId} {g:Nat} {t:TypeId} {cs:List Value} (ha:Agg P ty cs.length) (h:Arr w g t cs) :
 (Instr.loadAt ty (.pointer (some ⟨g,0,none⟩))).run P w = .ok (.agg cs.toArray) w:=by
 obtain ⟨d,hu,hd,hi⟩:=ha.parts;have:=run_loadVar_row (P:=P) w g t ty cs.toArray (0,0) d h hu (by cases d <;> first | rfl | exact absurd hd (by simp)) (by simpa using hi);simp [Instr.loadAt,Instr.sureAddr,this]
theorem run_storeArr {ty:TypeId} {g:Nat} {t:TypeId} {cs vs:List Value} (ha:Agg P ty vs.length) (h:Arr w g t cs) (hl:cs.length=vs.length) (h1:∀ v∈vs,v.oneCell'=true) :
 (Instr.storeAt ty (.pointer (some ⟨g,0,none⟩)) (.agg vs.toArray)).run P w = .ok () (w.setRow g vs.toArray):=by
 obtain ⟨d,hu,hd,hi⟩:=ha.parts;have:=run_storeVar_row (P:=P) w g t ty cs.toArray vs.toArray h (by simpa using hi) (by simpa using hl) (by simpa using h1);simp [Instr.storeAt,Instr.sureAddr,this]
theorem wl_ldArr {ops:Array Oper} {rest:List Oper} {o:Oper} {f:Act} {Q:Exit→Act→World→Prop} {ty:TypeId} {x:Operand} (hgd:o.guard=none) (ho:o.op = .load ty x)
 {g:Nat} {t:TypeId} {cs:List Value} (ha:Agg P ty cs.length) (hx:f.eval x = .pointer (some ⟨g,0,none⟩)) (h:Arr w g t cs)
 (hK:wpList P ops Q rest (f.put o.dst (.agg cs.toArray)) w):wpList P ops Q (o :: rest) f w:=by
 refine wpList_plain hgd fun K hK' => ?_;unfold Oper.wp execOp;simp only [ho,hx,Sem.run_bind,run_loadArr ha h,Result.andThen_ok,Sem.run_pure,Oper.upon];exact hK' _ _ hK
theorem wl_stArr {ops:Array Oper} {rest:List Oper} {o:Oper} {f:Act} {Q:Exit→Act→World→Prop} {ty:TypeId} {x y:Operand} (hgd:o.guard=none) (ho:o.op = .store ty x y)
 {g:Nat} {t:TypeId} {cs vs:List Value} {va:Array Value} (hx:f.eval x = .pointer (some ⟨g,0,none⟩)) (hy:f.eval y = .agg va) (hva:va=vs.toArray) (ha:Agg P ty vs.length) (h:Arr w g t cs)
 (hl:cs.length=vs.length) (h1:∀ v∈vs,v.oneCell'=true)
 (hK:∀ w',Arr w' g t vs→w.grownBy w' (some g)→wpList P ops Q rest (f.put o.dst undef) w'):wpList P ops Q (o :: rest) f w:=by
 subst hva;refine wpList_plain hgd fun K hK' => ?_;unfold Oper.wp execOp;simp only [ho,hx,hy,Sem.run_bind,run_storeArr ha h hl h1,Result.andThen_ok,Sem.run_pure,Oper.upon];exact hK' _ _ (hK _ (setRow_arr h vs) (setRow_grown w g _))
theorem res_arr {fn:Func} {p:Tmp} {ty:TypeId} (hr:fn.results=#[.cell p ty]) {tmps:Array Value} {g:Nat} {t:TypeId} {cs:List Value} (ha:Agg P ty cs.length)
 (hp:tmps.getD p undef = .pointer (some ⟨g,0,none⟩)) (h:Arr w g t cs):(results fn tmps).run P w = .ok (.agg cs.toArray) w:=by
 obtain ⟨d,hu,hd,hi⟩:=ha.parts;exact results_cell_row hr tmps w g t cs.toArray (0,0) d hp h hu (by cases d <;> first | rfl | exact absurd hd (by simp)) (by simpa using hi)
theorem run_cp {dT sT ty e:TypeId} {z:Value} {bytes g o dl dc m c:Nat} {A:Option Addr} {t:TypeId} {cur cs:List Value} (ht:P.underlying dT=some (.slice e)) (hinfo:Elem1 P e z bytes)
 (h:Arr w g t cur) (hs:Sl w A m c cs) (hm:m≤dl) (hfit:o+m≤cur.length) (h1:∀ v∈cs,v.oneCell'=true) :
 ∃ w',(Builtin.copy_ #[dT,sT] ty #[.slice (some ⟨g,o,none⟩) dl dc, .slice A m c]).run P w = .ok (goInt m) w'∧Arr w' g t (cur.take o ++ cs ++ cur.drop (o+m))∧w.grownBy w' (some g):=by
 obtain ⟨i,hi,hz,hsize,hby⟩:=info_parts hinfo;have hsz:(P.info? e).map (·.size)=some 1:=by simp [hi,hsize]
 have hcl:=hs.len;by_cases h0:m=0
 · subst h0;have:cs=[]:=List.eq_nil_of_length_eq_zero hcl;subst this;refine ⟨w,run_copy_none w dT sT ty e _ _ dl dc 0 c ht hsz (by simp), ?_,⟨rfl,rfl,rfl,Nat.le_refl _,fun _ _ _=>rfl⟩⟩;simpa using h
 · obtain ⟨b,off,ha,hc⟩:=hs.rd (by omega);subst ha;have hmin:m.min dl=m:=Nat.min_eq_left hm
   have:=run_copy_row (P:=P) w dT sT ty e g o dl dc ⟨b,off,none⟩ m c cur.toArray t cs ht hsz h (by rw [hmin]; exact hcl) (by
    intro j v hv;have hj:j < cs.length:=by
     rcases Nat.lt_or_ge j cs.length with h | h
     · exact h
     · simp [List.getElem?_eq_none h] at hv
    have h2:=hc j (by omega);rw [List.getD_eq_getElem?_getD,hv] at h2;rw [←Option.getD_some (a:=v) (b:=undef),←h2.symm.symm];unfold Addr.add
    by_cases h3:j=0 <;> simp [h3] at h2 ⊢ <;> exact h2) (by simp; omega) h1
   refine ⟨_, ?_,setRow_arr h _,setRow_grown w g _⟩;rw [this,hcl]
theorem wl_cp {ops:Array Oper} {rest:List Oper} {o:Oper} {f:Act} {Q:Exit→Act→World→Prop} {d s:Operand} {dT sT:TypeId} (hgd:o.guard=none)
 (ho:o.op = .call { callee := .builtin .copy,args:=#[d,s],argTypes:=#[dT,sT] })
 {e:TypeId} {z:Value} {bytes g p dl dc m c:Nat} {A:Option Addr} {t:TypeId} {cur cs:List Value} (ht:P.underlying dT=some (.slice e)) (hinfo:Elem1 P e z bytes)
 (hd:f.eval d = .slice (some ⟨g,p,none⟩) dl dc) (hsv:f.eval s = .slice A m c)
 (h:Arr w g t cur) (hs:Sl w A m c cs) (hm:m≤dl) (hfit:p+m≤cur.length) (h1:∀ v∈cs,v.oneCell'=true)
 (hK:∀ w',Arr w' g t (cur.take p ++ cs ++ cur.drop (p+m))→w.grownBy w' (some g)→wpList P ops Q rest (f.put o.dst (goInt m)) w'):wpList P ops Q (o :: rest) f w:=by
 refine wpList_plain hgd fun K hK' => ?_;obtain ⟨w',hrun,h2,h3⟩:=run_cp (P:=P) (ty:=o.type) (sT:=sT) (dc:=dc) ht hinfo h hs hm hfit h1;unfold Oper.wp execOp;simp only [ho,resolve,invoke,builtin,Sem.run_bind,Sem.run_pure,Result.andThen_ok,List.map_toArray,List.map_cons,List.map_nil,hd,hsv,hrun,Oper.upon];exact hK' _ _ (hK w' h2 h3)
end
end Go.Proofs.YtlpgonpfjbhmfaaGreatDoor
namespace Go.Proofs.YtlpgonpfjbhmfaaGreatDoor.W
def val (B:Nat):List Nat→Nat
 | []=>0
 | x :: r=>x+B*val B r
def bnd (B:Nat) (xs:List Nat):Prop:=∀ x∈xs,x < B
def nrm (xs:List Nat):Prop:=∀ h:xs≠[],xs.getLast h≠0
theorem val_app (B:Nat):∀ xs ys:List Nat,val B (xs ++ ys)=val B xs+B^xs.length*val B ys
 | [],ys=>by simp [val]
 | x :: xs,ys=>by
  simp only [List.cons_append,val,val_app B xs ys,List.length_cons,Nat.pow_succ]
  grind
theorem val_snoc (B:Nat) (xs:List Nat) (x:Nat):val B (xs ++ [x])=val B xs+B^xs.length*x:=by
 rw [val_app]; simp [val]
theorem val_zeros (B:Nat):∀ n,val B (List.replicate n 0)=0
 | 0=>rfl
 | n+1=>by simp [List.replicate_succ,val,val_zeros B n]
theorem val_lt {B:Nat}:∀ {xs:List Nat},bnd B xs→val B xs < B^xs.length
 | [],_=>by simp [val]
 | x :: xs,h=>by
  have h1:x < B:=h x (by simp);have h2:=val_lt (xs:=xs) (fun y hy=>h y (by simp [hy]));simp only [val,List.length_cons,Nat.pow_succ];have:B*(val B xs+1)≤B*B^xs.length:=Nat.mul_le_mul_left _ h2
  grind
theorem val_set {B:Nat}:∀ {xs:List Nat} {i:Nat} {v:Nat},i < xs.length→val B (xs.set i v)+B^i*xs.getD i 0=val B xs+B^i*v
 | [],_,_,h=>by simp at h
 | x :: xs,0,v,_=>by simp [val]; omega
 | x :: xs,i+1,v,h=>by
  have:=val_set (B:=B) (xs:=xs) (i:=i) (v:=v) (by simpa using h);simp only [List.set_cons_succ,val,List.getD_cons_succ,Nat.pow_succ]
  grind
theorem bnd_set {B:Nat} {xs:List Nat} (h:bnd B xs) {i v:Nat} (hv:v < B):bnd B (xs.set i v):=by
 intro x hx;rcases List.mem_or_eq_of_mem_set hx with h1 | h1
 · exact h x h1
 · rw [h1]; exact hv
theorem bnd_at {B:Nat} {xs:List Nat} (h:bnd B xs) {i:Nat} (hi:i < xs.length):xs.getD i 0 < B:=by
 rw [List.getD_eq_getElem?_getD,List.getElem?_eq_getElem hi];exact h _ (List.getElem_mem hi)
theorem bnd_app {B:Nat} {xs ys:List Nat} (h:bnd B xs) (k:bnd B ys):bnd B (xs ++ ys):=by
 intro x hx;rcases List.mem_append.1 hx with h1 | h1
 · exact h x h1
 · exact k x h1
theorem bnd_take {B:Nat} {xs:List Nat} (h:bnd B xs) (n:Nat):bnd B (xs.take n):=fun x hx=>h x (List.mem_of_mem_take hx)
theorem bnd_drop {B:Nat} {xs:List Nat} (h:bnd B xs) (n:Nat):bnd B (xs.drop n):=fun x hx=>h x (List.mem_of_mem_drop hx)
theorem val_take_succ {B:Nat} {xs:List Nat} {i:Nat} (hi:i < xs.length):val B (xs.take (i+1))=val B (xs.take i)+B^i*xs.getD i 0:=by
 rw [List.take_succ_eq_append_getElem hi,val_snoc,List.length_take,Nat.min_eq_left (by omega),List.getD_eq_getElem?_getD,List.getElem?_eq_getElem hi];rfl
theorem val_split {B:Nat} (xs:List Nat) (n:Nat) (h:n≤xs.length):val B xs=val B (xs.take n)+B^n*val B (xs.drop n):=by
 conv=>lhs; rw [←List.take_append_drop n xs]
 rw [val_app,List.length_take,Nat.min_eq_left h]
def trimTo (xs:List Nat):Nat→List Nat
 | 0=>[]
 | n+1=>if xs.getD n 0=0 then trimTo xs n else xs.take (n+1)
def trim (xs:List Nat):List Nat:=trimTo xs xs.length
theorem trimTo_val {B:Nat} {xs:List Nat}:∀ {n:Nat},n≤xs.length→val B (trimTo xs n)=val B (xs.take n)
 | 0,_=>by simp [trimTo,val]
 | n+1,h=>by
  unfold trimTo;split
  · rename_i h0;rw [trimTo_val (by omega),val_take_succ (by omega),h0];simp
  · rfl
theorem trim_val {B:Nat} (xs:List Nat):val B (trim xs)=val B xs:=by
 rw [trim,trimTo_val (Nat.le_refl _),List.take_length]
theorem trimTo_nrm {xs:List Nat}:∀ {n:Nat},n≤xs.length→nrm (trimTo xs n)
 | 0,_=>by intro h; simp [trimTo] at h
 | n+1,h=>by
  unfold trimTo;split
  · exact trimTo_nrm (by omega)
  · rename_i h0;intro hne;rw [List.getLast_eq_getElem];have hl:(xs.take (n+1)).length=n+1:=by rw [List.length_take]; omega
    simp only [hl,Nat.add_sub_cancel,List.getElem_take];simpa [List.getD_eq_getElem?_getD,List.getElem?_eq_getElem (show n < xs.length by omega)] using h0
theorem trim_nrm (xs:List Nat):nrm (trim xs):=trimTo_nrm (Nat.le_refl _)
theorem trimTo_prefix {xs:List Nat}:∀ {n:Nat},n≤xs.length→∃ k,k≤n∧trimTo xs n=xs.take k
 | 0,_=>⟨0,Nat.le_refl _,by simp [trimTo]⟩
 | n+1,h=>by
  unfold trimTo;split
  · obtain ⟨k,h1,h2⟩:=trimTo_prefix (xs:=xs) (n:=n) (by omega);exact ⟨k,by omega,h2⟩
  · exact ⟨n+1,Nat.le_refl _,rfl⟩
theorem bnd_trim {B:Nat} {xs:List Nat} (h:bnd B xs):bnd B (trim xs):=by
 obtain ⟨k,_,e⟩:=trimTo_prefix (xs:=xs) (n:=xs.length) (Nat.le_refl _);rw [trim,e];exact bnd_take h k
theorem nrm_pos {B:Nat} (_hB:0 < B) {xs:List Nat} (h:nrm xs) (hne:xs≠[]):B^(xs.length - 1)≤val B xs:=by
 have e:xs=xs.dropLast ++ [xs.getLast hne]:=(List.dropLast_concat_getLast hne).symm;have hl:=h hne;have h1:val B xs=val B xs.dropLast+B^(xs.length - 1)*xs.getLast hne:=by
  conv=>lhs; rw [e]
  rw [val_snoc,List.length_dropLast]
 have:B^(xs.length - 1)*1≤B^(xs.length - 1)*xs.getLast hne:=Nat.mul_le_mul_left _ (by omega);omega
theorem nrm_zero {B:Nat} (hB:0 < B) {xs:List Nat} (h:nrm xs):val B xs=0↔xs=[]:=by
 constructor
 · intro h0;refine Classical.byContradiction fun hne => ?_;have:=nrm_pos hB h hne;have:=Nat.pow_pos (n:=xs.length - 1) hB;omega
 · rintro rfl; rfl
theorem len_lt {B:Nat} (hB:1 < B) {xs ys:List Nat} (hx:bnd B xs) (hy:nrm ys) (h:xs.length < ys.length):val B xs < val B ys:=by
 have h1:=val_lt hx;have hne:ys≠[]:=by intro e; rw [e] at h; simp at h
 have h2:=nrm_pos (B:=B) (by omega) hy hne;have h3:B^xs.length≤B^(ys.length - 1):=Nat.pow_le_pow_right (by omega) (by omega);omega
theorem nrm_len {B:Nat} (hB:1 < B) {xs:List Nat} (h:nrm xs) {n:Nat} (hv:val B xs < B^n):xs.length≤n:=by
 rcases Nat.lt_or_ge n xs.length with h1 | h1
 · have hne:xs≠[]:=by intro e; rw [e] at h1; simp at h1
   have h2:=nrm_pos (B:=B) (by omega) h hne;have h3:B^n≤B^(xs.length - 1):=Nat.pow_le_pow_right (by omega) (by omega);omega
 · exact h1
theorem nrm_nil:nrm []:=fun h=>absurd rfl h
theorem nrm_single {x:Nat} (h:x≠0):nrm [x]:=fun _=>h
section
variable {B:Nat}
theorem add_step {l ys:List Nat} {V c k s c':Nat} (hk:k < l.length) (hy:k < ys.length) (h:val B l+c*B^k=V+val B (ys.take k)) (e:s+B*c'=l.getD k 0+ys.getD k 0+c) :
 val B (l.set k s)+c'*B^(k+1)=V+val B (ys.take (k+1)):=by
 have h1:=val_set (B:=B) (xs:=l) (i:=k) (v:=s) hk;have h2:=val_take_succ (B:=B) hy;rw [h2,Nat.pow_succ];generalize l.getD k 0=x at *
 generalize ys.getD k 0=y at *
 generalize val B (l.set k s)=a at *
 generalize val B l=b at *
 generalize val B (ys.take k)=d at *
 generalize B^k=p at *
 grind
theorem add_step0 {l:List Nat} {V c k s c':Nat} (hk:k < l.length) (h:val B l+c*B^k=V) (e:s+B*c'=l.getD k 0+c) :
 val B (l.set k s)+c'*B^(k+1)=V:=by
 have h1:=val_set (B:=B) (xs:=l) (i:=k) (v:=s) hk;rw [Nat.pow_succ];generalize l.getD k 0=x at *
 generalize val B (l.set k s)=a at *
 generalize val B l=b at *
 generalize B^k=p at *
 grind
theorem sub_step {l ys:List Nat} {V c k s c':Nat} (hk:k < l.length) (hy:k < ys.length) (h:val B l+val B (ys.take k)=V+c*B^k) (e:s+ys.getD k 0+c=l.getD k 0+B*c') :
 val B (l.set k s)+val B (ys.take (k+1))=V+c'*B^(k+1):=by
 have h1:=val_set (B:=B) (xs:=l) (i:=k) (v:=s) hk;have h2:=val_take_succ (B:=B) hy;rw [h2,Nat.pow_succ];generalize l.getD k 0=x at *
 generalize ys.getD k 0=y at *
 generalize val B (l.set k s)=a at *
 generalize val B l=b at *
 generalize val B (ys.take k)=d at *
 generalize B^k=p at *
 grind
theorem sub_step0 {l:List Nat} {V c k s c':Nat} (hk:k < l.length) (h:val B l=V+c*B^k) (e:s+c=l.getD k 0+B*c') :
 val B (l.set k s)=V+c'*B^(k+1):=by
 have h1:=val_set (B:=B) (xs:=l) (i:=k) (v:=s) hk;rw [Nat.pow_succ];generalize l.getD k 0=x at *
 generalize val B (l.set k s)=a at *
 generalize val B l=b at *
 generalize B^k=p at *
 grind
theorem digit_hi {W D w3 d2 q P lo lo':Nat} (hW:W=w3*P+lo) (hlo:lo < P) (hD:D=d2*P+lo') (hq:q*D≤W):q*d2≤w3:=by
 rcases Nat.lt_or_ge w3 (q*d2) with h | h
 · exfalso;have h1:(w3+1)*P≤q*d2*P:=Nat.mul_le_mul_right _ h;have h2:q*(d2*P)≤q*D:=Nat.mul_le_mul_left _ (by omega);have h3:q*(d2*P)=q*d2*P:=by rw [Nat.mul_assoc]
   have h4:(w3+1)*P=w3*P+P:=by rw [Nat.add_mul]; omega
   omega
 · exact h
theorem digit_lo {W D w3 d2 q e P lo lo':Nat} (_hP:0 < P) (hW:W=w3*P+lo) (hD:D=d2*P+lo') (hlo:lo' < P) (hq:W < (q+1)*D) (he:e*d2≤w3) (hd:q+1≤d2):e≤q+1:=by
 rcases Nat.lt_or_ge (q+1) e with h | h
 · exfalso;have h1:(q+2)*d2≤e*d2:=Nat.mul_le_mul_right _ h;have h2:(q+2)*d2*P≤w3*P:=Nat.mul_le_mul_right _ (by omega);have h3:(q+1)*D≤(q+1)*(d2*P+P):=Nat.mul_le_mul_left _ (by omega);have h4:(q+1)*(d2*P+P)=(q+1)*d2*P+(q+1)*P:=by grind
   have h5:(q+2)*d2*P=(q+1)*d2*P+d2*P:=by grind
   have h6:(q+1)*P≤d2*P:=Nat.mul_le_mul_right _ hd;omega
 · exact h
end
structure Leh (a b A Bb P α β:Int) (f g u1 u2 v1 v2 s:Int):Prop where
 ha:a=A*P+α
 hb:b=Bb*P+β
 a0:0≤α
 a1:α < P
 b0:0≤β
 b1:β < P
 sg:s=1∨s = -1
 f0:0≤f
 g0:0≤g
 gf:g≤f
 ef:f=s*(u1*A - v1*Bb)
 eg:g = -(s*(u2*A - v2*Bb))
 sv:v2*f+v1*g=A
 su:u2*f+u1*g=Bb
 u1n:0≤u1
 u2n:0≤u2
 v1n:0≤v1
 v2p:1≤v2
 uv:u2≤v2
 vv:v1≤v2
theorem Leh.start {a b A Bb P α β:Int} (ha:a=A*P+α) (hb:b=Bb*P+β) (a0:0≤α) (a1:α < P) (b0:0≤β) (b1:β < P) (hA:0≤Bb) (hAB:Bb≤A):Leh a b A Bb P α β A Bb 1 0 0 1 1 :=
 ⟨ha,hb,a0,a1,b0,b1,Or.inl rfl,by omega,hA,hAB,by simp,by simp,by simp,by simp,by omega,by omega,by omega,by omega,by omega,by omega⟩
theorem Leh.sec {a b A Bb P α β f g u1 u2 v1 v2 s:Int} (h:Leh a b A Bb P α β f g u1 u2 v1 v2 s) (hc:v2≤g):0 ≤ -(s*(u2*a - v2*b)):=by
 obtain ⟨ha,hb,a0,a1,b0,b1,sg,_,_,_,_,eg,_,_,_,u2n,_,v2p,uv,_⟩:=h;have e : -(s*(u2*a - v2*b))=g*P - s*(u2*α - v2*β):=by rw [ha,hb,eg]; grind
 have k1:u2*α≤v2*(P - 1):=Int.le_trans (Int.mul_le_mul_of_nonneg_right uv a0) (Int.mul_le_mul_of_nonneg_left (by omega) (by omega));have k2:v2*β≤v2*(P - 1):=Int.mul_le_mul_of_nonneg_left (by omega) (by omega);have k3:0≤u2*α:=Int.mul_nonneg u2n a0;have k4:0≤v2*β:=Int.mul_nonneg (by omega) b0;have k5:v2*P≤g*P:=Int.mul_le_mul_of_nonneg_right hc (by omega);have k6:v2*(P - 1)=v2*P - v2:=by grind
 rw [e];generalize u2 * α=x at *
 generalize v2 * β=y at *
 generalize v2 * P=z at *
 generalize g * P=t at *
 rcases sg with rfl | rfl <;> omega
theorem Leh.gap {a b A Bb P α β f g u1 u2 v1 v2 s:Int} (h:Leh a b A Bb P α β f g u1 u2 v1 v2 s) (hc:v1+v2≤f - g) (hu:u1≤v1∨(u1=1∧v1=0∧u2=0∧s=1)) : -(s*(u2*a - v2*b)) < s*(u1*a - v1*b):=by
 obtain ⟨ha,hb,a0,a1,b0,b1,sg,_,_,_,ef,eg,_,_,u1n,u2n,v1n,v2p,uv,vv⟩:=h;have e1 : -(s*(u2*a - v2*b))=g*P - s*(u2*α - v2*β):=by rw [ha,hb,eg]; grind
 have e2:s*(u1*a - v1*b)=f*P+s*(u1*α - v1*β):=by rw [ha,hb,ef]; grind
 have k5:(v1+v2)*P≤(f - g)*P:=Int.mul_le_mul_of_nonneg_right hc (by omega);have k6:(v1+v2)*P=v1*P+v2*P:=by grind
 have k7:(f - g)*P=f*P - g*P:=by grind
 have m1:0≤u2*α:=Int.mul_nonneg u2n a0;have m2:0≤v2*β:=Int.mul_nonneg (by omega) b0;have m3:0≤u1*α:=Int.mul_nonneg u1n a0;have m4:0≤v1*β:=Int.mul_nonneg v1n b0;have n1:v2*β≤v2*(P - 1):=Int.mul_le_mul_of_nonneg_left (by omega) (by omega);have n2:v1*β≤v1*(P - 1):=Int.mul_le_mul_of_nonneg_left (by omega) (by omega);have n3:u2*α≤v2*(P - 1):=Int.le_trans (Int.mul_le_mul_of_nonneg_right uv a0) (Int.mul_le_mul_of_nonneg_left (by omega) (by omega));have w1:v2*(P - 1)=v2*P - v2:=by grind
 have w2:v1*(P - 1)=v1*P - v1:=by grind
 rw [e1,e2];rcases hu with hu | ⟨rfl,rfl,rfl,rfl⟩
 · have n4:u1*α≤v1*(P - 1):=Int.le_trans (Int.mul_le_mul_of_nonneg_right hu a0) (Int.mul_le_mul_of_nonneg_left (by omega) (by omega));generalize u2 * α=x at *
   generalize v2 * β=y at *
   generalize u1 * α=x1 at *
   generalize v1 * β=y1 at *
   generalize v2 * P=z at *
   generalize v1 * P=z1 at *
   generalize g * P=t at *
   generalize f * P=t1 at *
   rcases sg with rfl | rfl <;> omega
 · simp at *
   generalize v2 * β=y at *
   generalize v2 * P=z at *
   generalize g * P=t at *
   generalize f * P=t1 at *
   omega
theorem Leh.step {a b A Bb P α β f g u1 u2 v1 v2 s q r:Int} (h:Leh a b A Bb P α β f g u1 u2 v1 v2 s) (hq:f=q*g+r) (r0:0≤r) (rg:r < g) (q1:1≤q) (hu:u1≤v1∨(u1=1∧v1=0∧u2=0∧s=1)):Leh a b A Bb P α β g r u2 (u1+q*u2) v2 (v1+q*v2) (-s):=by
 obtain ⟨ha,hb,a0,a1,b0,b1,sg,f0,g0,gf,ef,eg,sv,su,u1n,u2n,v1n,v2p,uv,vv⟩:=h;have k1:0≤q*u2:=Int.mul_nonneg (by omega) u2n;have k2:v2≤q*v2:=by
  have:=Int.mul_le_mul_of_nonneg_right q1 (show 0≤v2 by omega);omega
 have k3:q*u2≤q*v2:=Int.mul_le_mul_of_nonneg_left uv (by omega);refine ⟨ha,hb,a0,a1,b0,b1,by rcases sg with rfl | rfl <;> simp,g0,r0,by omega,by rw [eg]; grind, ?_, ?_, ?_,u2n,by omega,by omega,by omega, ?_,by omega⟩
 · have:r=f - q*g:=by omega
   rw [this,ef,eg]; grind
 · have:r=f - q*g:=by omega
   rw [this,←sv]; grind
 · have:r=f - q*g:=by omega
   rw [this,←su]; grind
 · rcases hu with hu | ⟨rfl,rfl,rfl,_⟩
   · omega
   · simp; omega
theorem guess_le {b y1 y0 U:Nat} (h1:b≤2*y1) (h0:y0 < b) (hU:U < y1*b+y0):U / y1≤b+1:=by
 rcases Nat.lt_or_ge (b+1) (U / y1) with h | h
 · exfalso;have h2:(b+2)*y1≤U / y1*y1:=Nat.mul_le_mul_right _ h;have h3:U / y1*y1≤U:=Nat.div_mul_le_self _ _;have h4:(b+2)*y1=y1*b+2*y1:=by grind
   omega
 · exact h
theorem guess_hi {b y1 y0 U u q g r:Nat} (hg:g*y1+r=U) (hq:q*(y1*b+y0)≤U*b+u) (hu:u < b) (hr:r < y1):q≤g:=by
 rcases Nat.lt_or_ge g q with h | h
 · exfalso;have h1:(g+1)*(y1*b+y0)≤q*(y1*b+y0):=Nat.mul_le_mul_right _ h;have h2:(g+1)*(y1*b+y0)=g*y1*b+y1*b+(g+1)*y0:=by grind
   have h3:U*b=g*y1*b+r*b:=by rw [←hg]; grind
   have h4:(r+1)*b≤y1*b:=Nat.mul_le_mul_right _ hr;have h5:(r+1)*b=r*b+b:=by grind
   omega
 · exact h
theorem guess_down {b y1 y0 U u q g r:Nat} (hg:g*y1+r=U) (hq:q*(y1*b+y0)≤U*b+u) (hqb:q < b) (hc:b≤g∨b*r+u < g*y0):q < g:=by
 rcases hc with hc | hc
 · omega
 · rcases Nat.lt_or_ge q g with h | h
   · exact h
   · exfalso;have h1:g*(y1*b+y0)≤q*(y1*b+y0):=Nat.mul_le_mul_right _ h;have h2:g*(y1*b+y0)=g*y1*b+g*y0:=by grind
     have h3:U*b=g*y1*b+r*b:=by rw [←hg]; grind
     have h4:b*r=r*b:=Nat.mul_comm _ _;omega
theorem guess_done {b y1 y0 U u q g r:Nat} (hg:g*y1+r=U) (hq2:U*b+u < (q+1)*(y1*b+y0)) (hc:g*y0≤b*r+u):g≤q:=by
 rcases Nat.lt_or_ge q g with h | h
 · exfalso;have h1:(q+1)*(y1*b+y0)≤g*(y1*b+y0):=Nat.mul_le_mul_right _ h;have h2:g*(y1*b+y0)=g*y1*b+g*y0:=by grind
   have h3:U*b=g*y1*b+r*b:=by rw [←hg]; grind
   have h4:b*r=r*b:=Nat.mul_comm _ _;omega
 · exact h
theorem guess_over {b y0 u g r:Nat} (hr:b≤r) (hg:g≤b) (h0:y0 < b):g*y0≤b*r+u:=by
 have h1:g*y0≤b*y0:=Nat.mul_le_mul_right _ hg;have h2:b*y0≤b*r:=Nat.mul_le_mul_left _ (by omega);omega
theorem digit_lt {b y U u q:Nat} (hU:U < y) (hu:u < b) (hq:q*y≤U*b+u):q < b:=by
 rcases Nat.lt_or_ge q b with h | h
 · exact h
 · exfalso;have h1:b*y≤q*y:=Nat.mul_le_mul_right _ h;have h2:(U+1)*b≤y*b:=Nat.mul_le_mul_right _ hU;have h3:(U+1)*b=U*b+b:=by grind
   have h4:b*y=y*b:=Nat.mul_comm _ _;omega
end Go.Proofs.YtlpgonpfjbhmfaaGreatDoor.W
