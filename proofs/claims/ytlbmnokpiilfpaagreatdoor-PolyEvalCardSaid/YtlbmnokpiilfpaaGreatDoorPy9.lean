/- Part Py9. -/
import Derived.Test.YtlbmnokpiilfpaaGreatDoorPy8
import Derived.Test.YtlbmnokpiilfpaaGreatDoorProg
import Derived.Deep.QuietTactic
import Derived.BigQuiet
import Derived.WalkKit
import Derived.StillTailTactics
set_option linter.all false
set_option maxRecDepth 100000
set_option maxHeartbeats 100000000
namespace Go.Proofs.YtlbmnokpiilfpaaGreatDoor
open Tryz Go Go.RowKit
def jC:=@List.mem_iff_getElem
def jH:=@List.getElem?_set_self
def jK:=@List.take_zero
def jb:=@ByteArray.toList_eq
def ji:=@List.exists_cons_of_ne_nil
def kC:=@of_decide_eq_true
def kU:=@List.foldl_append
def kV:=@List.flatten_cons
def lO:=@List.sum_cons
def ld:=@List.mem_flatten
def mC:=@List.tail_cons
def mT:=@List.drop_append
def mz:=@Rat.mkRat_self
def nC:=@cell_of_row
def nK:=@List.take_add_one
variable {f:Act} {ad:Addr} {ops:Array Oper} {neg:Bool} {s:ByteArray} {Q:Exit->Act->World->Prop} {vars:Int} {news rows:List (List Value)} {e xs ys:List Int} {rest:List Oper} {den dt l num r:List UInt8} {L cs new vs zs:List Value} {base' bytes c cx d g k m n:Nat} {o:Oper} {x y:Operand} {a b:Option Addr} {q:Rat} {t ty:TypeId} {v:Value} {w w':World}
theorem Eb{k:Nat}:∀ (a:List (List Value)),(∀ r∈a,r.length=k)->∀ i j,j<k->a.flatten[i*k+j]?=(a[i]?).bind (·[j]?)
 | [],_,i,j,_=>by simp
 | r :: rest,h,0,j,hj=>by
  have hr:r.length=k:=h r (by simp);simp only[pw,gL,kV,jB,ks];rw[gF (by omega)]
 | r :: rest,h,i+1,j,hj=>by
  have hr:r.length=k:=h r (by simp);have c:=Eb rest (fun x b=>h x (by simp[b])) i j hj;simp only[kV,l9];have e:(i+1)*k+j=k+(i*k+j):=by rw[iy];omega
  rw[e,gN (by omega),hr,l4,c]
theorem B7{k:Nat}:∀ (a:List (List Value)),(∀ r∈a,r.length=k)->a.flatten.length=a.length*k
 | [],_=>by simp
 | r :: rest,h=>by
  have hr:r.length=k:=h r (by simp);have c:=B7 rest (fun x b=>h x (by simp[b]));simp only[kV,iD,io,c,hr,iy];omega
theorem Ng{k:Nat}:∀ (a:List (List Value)),(∀ r∈a,r.length=k)->∀ i (vs:List Value),vs.length=k->i<a.length ->
 a.flatten.take (i*k) ++ vs ++ a.flatten.drop (i*k+k)=(a.set i vs).flatten
 | [],_,i,vs,_,hi=>by simp at hi
 | r :: rest,h,0,vs,hv,_=>by
  have hr:r.length=k:=h r (by simp);simp only[pw,jK,iA,gL,kV,ll];rw[mT,hr,jt,iw,List.drop_eq_nil_of_le (by omega),iA]
 | r :: rest,h,i+1,vs,hv,hi=>by
  have hr:r.length=k:=h r (by simp);have f:=Ng rest (fun x d=>h x (by simp[d])) i vs hv (by simpa using hi);have e:(i+1)*k=k+i*k:=by rw[iy];omega
  simp only[kV,kN,e];rw[List.take_append,mT,oL (by omega),List.drop_eq_nil_of_le (by omega),iA,hr];have b:k+i*k-k=i*k:=by omega
  have c:k+i*k+k-k=i*k+k:=by omega
  rw[b,c,<-f];simp
theorem Nh{a N:Nat}(c:vs.length=k)(h1:a+k<=N)(h2:N<=L.length):(L.take a ++ vs ++ L.drop (a+k)).take N=(L.take N).take a ++ vs ++ (L.take N).drop (a+k):=by
 have b:(L.take a ++ vs).length=a+k:=by simp[c];omega
 rw[nA,jn (by omega),List.drop_take,List.take_append,oL (by omega),b]
theorem OK{a:Nat}(b:vs.length=k)(h:a+k<=L.length):(L.take a ++ vs ++ L.drop (a+k)).length=L.length:=by
 simp[b];omega
structure SlK(w:World)(k:Nat)(a:Option Addr)(n c:Nat)(rows:List (List Value)):Prop where
 len:rows.length=n
 cap:n<=c
 max:c<=maxLen
 wid:∀ r∈rows,r.length=k
 rd:0<n->∃ b off,a=some ⟨b,off,none⟩/\∀ i,i<n->∀ j,j<k->w.cell? ⟨b,off+i*k+j,none⟩=some ((rows.getD i []).getD j undef)
theorem SlK.ext(h:SlK w k a n c rows)(e:Ext w w'):SlK w' k a n c rows :=
 ⟨h.len,h.cap,h.max,h.wid,fun h0=>let ⟨b,off,ha,hc⟩:=h.rd h0;⟨b,off,ha,fun i d j f=>e.cell (hc i d j f)⟩⟩
theorem SlK.nil(w:World)(k:Nat):SlK w k none 0 0 []:=⟨rfl,lrf _,oY _,(fun _ h=>by cases h),fun h=>absurd h (by omega)⟩
theorem SlK.le(h:SlK w k a n c rows):n<=9223372036854775807:=by
 have h1:=h.cap;have h2:=h.max;unfold maxLen at h2;omega
theorem SlK.row(h:SlK w k a n c rows){i:Nat}(hi:i<n):(rows.getD i []).length=k:=by
 have b:i<rows.length:=by rw[h.len];exact hi
 refine h.wid _ ?_;rw[gqq,oN b];simp
def AP(w:World)(base:Nat)(e:TypeId)(k:Nat)(a:Option Addr)(n c:Nat)(rows:List (List Value)):Prop:=(∀ r∈rows,r.length=k)/\w.ownsRow base e k (.slice a n c) n rows.flatten
section
variable {w w':World} {base:Nat} {e:TypeId} {k:Nat} {a:Option Addr} {n c:Nat} {rows:List (List Value)}
theorem AP.ext(h:AP w base e k a n c rows)(x:Ext w w'):AP w' base e k a n c rows:=⟨h.1,Ma h.2 x⟩
theorem AP.nil(w:World)(base:Nat)(e:TypeId)(k:Nat):AP w base e k none 0 0 []:=⟨(fun _ h=>by cases h),World.ownsRow_nil w base e k⟩
theorem AP.mono(h:AP w base e k a n c rows)(i:base'<=base):AP w base' e k a n c rows:=by
 obtain⟨h0,h1,h2⟩:=h;refine⟨h0,h1,?_⟩;rcases h2 with h2|⟨g,b,d,f,j,r⟩
 · exact Or.inl h2
 · exact Or.inr ⟨g,b,d,f,by omega,r⟩
theorem AP.kept{row:Option Nat}(h:AP w base e k a n c rows)(f:w.grownBy w' row)(d:blk a=none\/blk a≠row):AP w' base e k a n c rows:=by
 refine⟨h.1,World.ownsRow.kept h.2 f ?_⟩;cases a with
 | none=>left;rfl
 | some b=>right;rcases d with h | h
           · simp[blk]at h
           · simpa[blk,Value.ownBlock]using h
theorem AP.lt(h:AP w base e k a n c rows){g:Nat}(d:blk a=some g):base<=g/\g<w.heap.size:=by
 refine World.ownsRow.lt h.2 g ?_;cases a with
 | none=>simp[blk]at d
 | some b=>simpa[blk,Value.ownBlock]using d
theorem AP.place(h:AP w base e k a n c rows)(l:0<n):∃ g,a=some ⟨g,0,none⟩/\base<=g/\g<w.heap.size:=by
 rcases h.2.2 with⟨_,h0⟩|⟨g,d,f,b,i,j,_⟩
 · omega
 · simp only[pk]at b;refine⟨g,b.1,i,?_⟩;rcases gQ g w.heap.size with h|h
   · exact h
   · simp[jw h]at j
theorem AP.len(b:0<k)(h:AP w base e k a n c rows):rows.length=n:=by
 have h1:=h.2.1;rw[B7 rows h.1]at h1;exact lC b h1
theorem AP.slk(v:0<k)(h:AP w base e k a n c rows):SlK w k a n c rows:=by
 have q:=h.len v;obtain⟨h0,h1,h2⟩:=h;rcases h2 with⟨f,A⟩|⟨g,r,d,f,z,s,m,x,B,y⟩
 · simp only[pk]at f;obtain⟨rfl,rfl,rfl⟩:=f;have:rows=[]:=oX q;subst this;exact SlK.nil w k
 · simp only[pk,lh]at f;obtain⟨rfl,rfl⟩:=f;refine⟨q,m,x,h0,fun _=>⟨g,0,rfl,fun i t j p => ?_⟩⟩;have b:i<rows.length:=by omega
   have o:(rows[i]).length=k:=h0 _ (iF b);have h3:=Eb rows h0 i j p;rw[oN b,ks,<-y,List.getElem?_take]at h3;have l:i*k+j<n*k:=by
    have:(i+1)*k<=n*k:=oO k t;rw[iy]at this;omega
   rw[pq l]at h3;rw[gL,nC w g _ d e (0,0) s];have h4:d[i*k+j]?=(rows[i])[j]?:=by rw[<-h3];simp
   rw[h4,oN (by omega)];simp[b,o,p]
end
section
variable {P:Program} {w:World}
theorem T0{b a i:Nat}(s:Agg P ty k)(h:SlK w k (some ⟨b,a,none⟩) n c rows)(hi:i<n) :
 (Instr.loadAt ty (.pointer (some ⟨b,a+i*k,none⟩))).run P w = .ok (.agg (rows.getD i []).toArray) w:=by
 obtain⟨d,hu,A,f⟩:=s.parts;obtain⟨z,r,e,t⟩:=h.rd (by omega);simp only[oQ,ic,iY]at e;obtain⟨rfl,rfl⟩:=e;have o:=h.row hi;have q:(loadCells ⟨b,a+i*k,none⟩ (rows.getD i []).length).run P w = .ok (rows.getD i []).toArray w:=by
  refine run_loadCells_list (P:=P) w _ (rows.getD i []) (fun j v p => ?_);have x:j<k:=by
   rcases gQ j k with h|h
   · exact h
   · rw[pu (by omega)]at p;cases p
  have g:(⟨b,a+i*k,none⟩:Addr).add j=⟨b,a+i*k+j,none⟩:=by unfold Addr.add;split <;> simp_all
  rw[g,t i hi j x,gqq,p];rfl
 rw[o]at q;cases m:P.info? ty with
 | none=>simp[m]at f
 | some inf =>
  have y:inf.size=k:=by simpa[m]using f
  have l:(isAgg ty).run P w = .ok true w:=by
   cases d <;> simp_all [isAgg,ip hu]
  simp[Instr.loadAt,Instr.sureAddr,loadVar,l,Go.sizeOf,typeInfo,m,y,q]
theorem Bz(e:o.guard=none)(l:o.op = .load ty x)
 {k:Nat} {b a n c i:Nat} {rows:List (List Value)} (j:Agg P ty k) (m:f.eval x = .pointer (some ⟨b,a+i*k,none⟩)) (h:SlK w k (some ⟨b,a,none⟩) n c rows) (hi:i<n)
 (g:wpList P ops Q rest (f.put o.dst (.agg (rows.getD i []).toArray)) w):wpList P ops Q (o :: rest) f w:=by
 refine iI e fun K d => ?_;unfold Oper.wp execOp;simp only[l,m,gI,T0 j h hi,p9,gS,Oper.upon];exact d _ _ g
theorem T3{ty:TypeId}{k base:Nat}{e:TypeId}{g n c i:Nat}{rows:List (List Value)}{vs:List Value}(G:0<k)(C:Agg P ty k)(h:AP w base e k (some ⟨g,0,none⟩) n c rows)(hi:i<n)(j:vs.length=k)(h1:∀ v∈vs,v.oneCell'=true) :
 ∃ z,(Instr.storeAt ty (.pointer (some ⟨g,i*k,none⟩)) (.agg vs.toArray)).run P w = .ok () z/\AP z base e k (some ⟨g,0,none⟩) n c (rows.set i vs)/\w.grownBy z (some g):=by
 obtain⟨d,hu,K,f⟩:=C.parts;have o:=h.len G;obtain⟨h0,F,h2⟩:=h;rcases h2 with⟨t,_⟩|⟨J,B,b,t,D,A,p,H,q,I⟩
 · simp at t
 simp only[pk,oQ,ic,iY,lh]at t;obtain⟨rfl,rfl⟩:=t;have x:i*k+k<=n*k:=by
  have:(i+1)*k<=n*k:=oO k hi;rw[iy]at this;omega
 have E:n*k<=c*k:=oO k p;have l:=run_storeCells_at (P:=P) g (i*k) e vs 0 b w A (by rw[j];omega) h1;rw[gP,j]at l;refine⟨w.setRow g (b.toList.take (i*k) ++ vs ++ b.toList.drop (i*k+k)).toArray,?_,⟨?_,?_⟩,Bs w g _⟩
 · cases y:P.info? ty with
   | none=>simp[y]at f
   | some inf =>
    have q:inf.size=k:=by simpa[y]using f
    simp[Instr.storeAt,Instr.sureAddr,storeVar,Go.sizeOf,typeInfo,y,Value.cells,q,j,l]
 · intro r m;rcases iT m with m|rfl
   · exact h0 r m
   · exact j
 · have s:=Ng rows h0 i vs j (by omega);refine⟨by rw[B7 _ (fun r m=>by rcases iT m with m | rfl;exact h0 r m;exact j)];simp[o],Or.inr ⟨g,c,(b.toList.take (i*k) ++ vs ++ b.toList.drop (i*k+k)).toArray,rfl,D,by simp[World.setRow,ko,A],p,H,?_,?_⟩⟩
   · have:=OK (L:=b.toList) (a:=i*k) j (by simp[q];omega);simpa[q]using this
   · rw[<-s,<-I];exact Nh j x (by simp[q];omega)
theorem Hk(j:o.guard=none)(s:o.op = .store ty x y)
 {k base:Nat} {e:TypeId} {g n c i:Nat} {rows:List (List Value)} {vs:List Value} {va:Array Value} (q:0<k) (p:Agg P ty k) (t:f.eval x = .pointer (some ⟨g,i*k,none⟩)) (z:f.eval y = .agg va) (l:va=vs.toArray)
 (h:AP w base e k (some ⟨g,0,none⟩) n c rows) (hi:i<n) (r:vs.length=k) (h1:∀ v∈vs,v.oneCell'=true)
 (m:∀ b,AP b base e k (some ⟨g,0,none⟩) n c (rows.set i vs)->w.grownBy b (some g)->wpList P ops Q rest (f.put o.dst undef) b):wpList P ops Q (o :: rest) f w:=by
 subst l;obtain⟨b,a,h2,h3⟩:=T3 q p h hi r h1;refine iI j fun K d => ?_;unfold Oper.wp execOp;simp only[s,t,z,gI,a,p9,gS,Oper.upon];exact d _ _ (m _ h2 h3)
def BT(P:Program)(e:TypeId)(zs:List Value)(k bytes:Nat):Prop :=
 (P.info? e).map (fun i=>(i.zero,i.size,i.bytes))=some (some (.agg zs.toArray),k,bytes)/\zs.length=k/\0<k
theorem BT.parts{P:Program}{e:TypeId}(h:BT P e zs k bytes):∃ i,P.info? e=some i/\i.zero=some (.agg zs.toArray)/\i.size=k/\i.bytes=bytes:=by
 obtain⟨h,_,_⟩:=h;cases a:P.info? e with
 | none=>rw[a]at h;cases h
 | some i =>
  rw[a]at h;simp only[jm,oQ,lA]at h;exact⟨i,rfl,h.1,h.2.1,h.2.2⟩
theorem JY{e:TypeId}{base:Nat} 
 (U:P.underlying t=some (.slice e)) (f:BT P e zs k bytes) (v:AP w base e k a n c rows) (d:SlK w k (some ad) m cx news)
 (h1:∀ r∈news,∀ u∈r,u.oneCell'=true) (h63:n+m<=maxLen) (p:(n+m)*bytes<=140737488355328) (y:base<=w.heap.size) :
 ∃ E N A,(Builtin.append_ #[t,t] ty #[.slice a n c,.slice (some ad) m cx]).run P w = .ok (.slice E (n+m) N) A/\AP A base e k E (n+m) N (rows ++ news) /\
  w.grownBy A (blk a)/\(blk E=blk a\/blk E=some w.heap.size):=by
 obtain⟨i,T,V,z,G⟩:=f.parts;have I:=f.2.2;have M:(Value.agg zs.toArray).cells.size=k:=by simp[Value.cells,f.2.1]
 have s:(Value.slice a n c).ownBlock=blk a:=by cases a <;> rfl
 have q:∀ j u,news.flatten[j]?=some u->w.cell? (ad.add j)=some u:=by
  intro j u hu;have H:j<news.flatten.length:=by
   rcases gQ j news.flatten.length with h|h
   · exact h
   · simp[pu h]at hu
  rw[B7 news d.wid,d.len]at H;have J:0<m:=by rcases oV m with h | h;(rw[h,pw]at H;omega);exact h
  obtain⟨b,o,h,S⟩:=d.rd J;injection h with h;subst h;have B:j/k<m:=(iS I).2 H;have D:j%k<k:=gE _ I;have C:j=j/k*k+j%k:=by rw[oU];exact(ij j k).symm
  have h2:=S (j/k) B (j%k) D;have h3:=Eb news d.wid (j/k) (j%k) D;rw[<-C,hu]at h3;have O:j/k<news.length:=by rw[d.len];exact B
  rw[oN O,ks]at h3;have h4:(news.getD (j/k) []).getD (j%k) undef=u:=by
   rw[gqq (l:=news),oN O,pg,gqq,<-h3];rfl
  rw[h4,jk,<-C]at h2;rw[<-h2];unfold Addr.add;by_cases h0:j=0 <;> simp[h0]
 obtain⟨W,A,x,h2,h3,_,h5⟩:=run_append_own_at (P:=P) w base t ty e i (.agg zs.toArray) k bytes U T V z G M I (.slice a n c) n rows.flatten v.2 ad m cx news.flatten (by rw[B7 news d.wid,d.len]) q (by intro u hu;obtain⟨r,K,hu⟩:=ld.1 hu;exact h1 r K u hu) h63 p y;rw[<-List.flatten_append]at h2;have Q:∀ r∈rows ++ news,r.length=k:=fun r K=>(il.1 K).elim (v.1 r) (d.wid r);rcases h2.2 with⟨L,h0⟩|⟨g,F,R,L,_⟩
 · subst L;refine⟨none,0,A,by rw[x,h0],⟨Q,?_⟩,by rw[<-s];exact h3,by rw[<-s];exact h5⟩;rw[h0]at h2 |-;exact h2
 · subst L;exact⟨_,F,A,x,⟨Q,h2⟩,by rw[<-s];exact h3,by rw[<-s];exact h5⟩
theorem DI{s:Operand}(v:o.guard=none)
 (C:o.op = .call { callee := .builtin .append,args:=#[s,x],argTypes:=#[t,t] })
 {e:TypeId} {zs:List Value} {k bytes base:Nat} {a:Option Addr} {n c:Nat} {rows:List (List Value)} {z:Addr} {m A:Nat} {news:List (List Value)}
 (E:P.underlying t=some (.slice e)) (g:BT P e zs k bytes) (D:f.eval s = .slice a n c) (j:AP w base e k a n c rows) (F:f.eval x = .slice (some z) m A) (y:SlK w k (some z) m A news)
 (h1:∀ r∈news,∀ u∈r,u.oneCell'=true) (h63:n+m<=maxLen) (b:(n+m)*bytes<=140737488355328) (d:base<=w.heap.size)
 (h:∀ i q p,AP p base e k i (n+m) q (rows ++ news)->w.grownBy p (blk a)->(blk i=blk a\/blk i=some w.heap.size)->wpList P ops Q rest (f.put o.dst (.slice i (n+m) q)) p) :
 wpList P ops Q (o :: rest) f w:=by
 refine iI v fun _ B => ?_;obtain⟨i,q,p,l,h2,h3,h4⟩:=JY (P:=P) (ty:=o.type) E g j y h1 h63 b d;unfold Oper.wp execOp;simp only[C,resolve,invoke,builtin,gI,gS,p9,jo,iz,jg,D,F,l];exact B _ _ (h i q p h2 h3 h4)
theorem K6(f:zs.length=k)(e:0<k):(madeCells zs.toArray (n*k)).toList=(List.replicate n zs).flatten:=by
 have g:∀ r∈List.replicate n zs,r.length=k:=fun r i=>by rw[(ir.1 i).2];exact f
 refine kW fun j => ?_;by_cases d:j<n*k
 · have c:j=j/k*k+j%k:=by rw[oU];exact(ij j k).symm
   have b:j/k<n:=(iS e).2 d;have a:j%k<k:=gE _ e;have h3:=Eb (List.replicate n zs) g (j/k) (j%k) a;rw[<-c]at h3;rw[h3];simp[madeCells,d,f,b,a]
 · have h1:(madeCells zs.toArray (n*k)).toList.length<=j:=by simp[size_madeCells];omega
   have h2:(List.replicate n zs).flatten.length<=j:=by rw[B7 _ g];simp;omega
   rw[pu h1,pu h2]
theorem ED{l c:Operand}(x:o.guard=none)(p:o.op=Op.makeSlice t l c)
 {e:TypeId} {zs:List Value} {k bytes n:Nat} (B:P.underlying t=some (.slice e)) (a:BT P e zs k bytes) (z:f.eval l = .int .i64 n) (v:f.eval c = .int .i64 n)
 (s:bytes*n<=281474976710656) (h63:n<=maxLen)
 (q:∀ g,AP g w.heap.size e k (some ⟨w.heap.size,0,none⟩) n n (List.replicate n zs)->Ext w g->wpList P ops Q rest (f.put o.dst (.slice (some ⟨w.heap.size,0,none⟩) n n)) g) :
 wpList P ops Q (o :: rest) f w:=by
 refine iI x fun K j => ?_;obtain⟨i,y,C,b,m⟩:=a.parts;obtain⟨g,d,h2,h3⟩:=run_make_full (P:=P) w w.heap.size t e i (.agg zs.toArray) k B y C b .i64 .i64 n (by rw[m];exact s) h63 (lrf _);have h4:(Value.agg zs.toArray).cells=zs.toArray:=rfl;rw[h4,K6 a.2.1 a.2.2]at h2;unfold Oper.wp execOp;simp only[p,gI,gS,p9,z,v,d,Oper.upon];exact j _ _ (q g ⟨fun r A=>by rw[(ir.1 A).2];exact a.2.1,h2⟩ ((Ext.refl w).grown h3 (by simp)))
end
def Ec(w:World)(a:Option Addr)(n c:Nat)(l:List Rat):Prop:=∃ rows,SlK w 4 a n c rows/\l.length=n/\∀ i,i<n->CU w (rows.getD i []) (l.getD i 0)
theorem Ec.ext{w d:World}{a:Option Addr}{n c:Nat}{l:List Rat}(h:Ec w a n c l)(e:Ext w d):Ec d a n c l:=by
 obtain⟨b,h1,h2,h3⟩:=h;exact⟨b,h1.ext e,h2,fun i f=>(h3 i f).ext e⟩
theorem L4{a:Nat}(b:0<a)(c:0<d):0<a*(d/Nat.gcd a d) :=
 kF b (Nat.div_pos (kM c (jA _ _)) (mO _ b))
def Bi(l:List Rat):Nat:=l.foldl (fun a q=>a*(q.den/Nat.gcd a q.den)) 1
theorem BU(l:List Rat):0<Bi l:=by
 have:∀ (l:List Rat) (a:Nat),0<a->0<l.foldl (fun a q=>a*(q.den/Nat.gcd a q.den)) a:=by
  intro l
  induction l with
  | nil=>intro a h;exact h
  | cons q r ih=>intro a h;exact ih _ (L4 h (iU q.den_nz))
 exact this l 1 (by omega)
theorem QW{l:List Rat}(h:k<l.length):Bi (l.take (k+1))=Bi (l.take k)*((l.getD k 0).den/Nat.gcd (Bi (l.take k)) (l.getD k 0).den):=by
 rw[nK,oN h];simp only[Option.toList,Bi,kU,kT,List.foldl_nil];simp[h]
theorem Kl{l:List Rat}(hT:AV w)(h:Ec w a n c l)(hd:∀ q∈l,q.den<P2 2400)(hb:∀ k,Bi (l.take k)<P2 9600):Calls prog 218 #[.slice a n c] w (D8 w (Bi l:Int)):=by
 obtain⟨an,hS,hl,hq⟩:=h;have HB:=qh hb;have HD:=qh hd;clear hb hd;have hn:=hS.le
 go_enter func218,ntmps218
 go_upto_region 1 with(fail)
 refine AM ?_;intro w0 U O am;have D:Arr w0 w.heap.size 83 (Ab false none 0 0):=O;clear am
 go_wp2_with fail
 refine(LT (z:=1) (by omega) (by omega)).mono ?_;rintro e w1 ⟨s1,a1,n1,c1,rfl,B,N,a4⟩;have aj:(Ab s1 a1 n1 c1).toArray=#[.bool s1,.slice a1 n1 c1]:=rfl;have Y:=Arr.new w1 83 (Ab false none 0 0)
 go_upto_region 2 with(refine Aa (vs:=Ab s1 a1 n1 c1) rfl rfl rfl rfl rfl Ak Y rfl (Ad _ _ _ _) ?_;intro w2 P Z)
 have C:Ext w1 w2:=((Ext.refl w1).alloc _).grownR Z (lrf _);have ap:w.heap.size<w1.heap.size:=(D.ext B).lt;have W:=(D.ext B).ext C;have hW:=(U.trans B).trans C;have a5:=a4.ext C;clear D O Y Z aj;generalize w1.heap.size=S at *
 go_wp2
 go_loopw[9] (fun iv wr=>∃ (k:Nat) (v:Bool) (p:Option Addr) (t s:Nat),iv = .int .i64 k/\k<=n/\Ext w wr/\Arr wr w.heap.size 83 (Ab false none 0 0)/\Arr wr S 83 (Ab v p t s)/\Hid (decide (((Bi (l.take k):Nat):Int)<0)=v)/\Wd wr p t s (Bi (l.take k))) (fun iv _=>n-(intOf iv).toNat)
 case atStart=>exact⟨0,s1,a1,n1,c1,rfl,oY _,hW,W,P,N,a5⟩
 case round =>
  obtain⟨k,v,p,t,s,rfl,hk,L,D,Q,M,hx⟩:=hrel;clear hW W P N a5 a4 U B C;by_cases a3:k<n
  · have J:=hS.ext L;obtain⟨b,aw,rfl,_⟩:=J.rd (by omega);obtain⟨sx,ax,nx,cx,bx,mx,dx,E,ao,al,a8⟩:=(hq k a3).ext L;have Y:=Arr.new wr 85 (Ah false none 0 0 false none 0 0)
    go_upto_region 5 with(first
     | (refine Bz rfl rfl Af rfl J a3 ?_;rw[E])
     | (refine Aa (vs:=Ah sx ax nx cx false bx mx dx) rfl rfl rfl rfl rfl Af Y rfl (Ag _ _ _ _ _ _ _ _) ?_;intro w3 F a0))
    have g:Ext wr w3:=((Ext.refl wr).alloc _).grownR a0 (lrf _);have HL:=qh (QW (l:=l) (k:=k) (by omega));have HK:=qh (HB.out k);have a9:=qh (HD.out (l.getD k 0) (by rw[gqq,oN (by omega)];simp));have HP:Hid (0<Bi (l.take k)):=qh (BU _);have aq:w.heap.size<wr.heap.size:=D.lt;have ar:S<wr.heap.size:=Q.lt;clear Y a0 E;generalize wr.heap.size=X at *
    have c2:=F.c 2 rfl;have c3:=F.c 3 rfl;have y:=A3 (a8.ext g);have a7:=hx.ext g;have V:AD w3 (.agg (Ab v p t s).toArray) ((Bi (l.take k):Nat):Int):=⟨v,p,t,s,rfl,M,hx.ext g⟩;have I:=D.ext g;have x:=Q.ext g;have ag:=hT.ext (L.trans g);have m:=L.trans g;clear D Q L g hx al a8 J hq F;generalize l.getD k 0=q at *
    generalize hA:Bi (l.take k)=A at *
    go_wp2_with fail
    refine(Az (r:=decide (q.den=1)) y (jL.2 AA)).mono ?_;rintro e w4 ⟨rfl,f⟩;by_cases i:q.den=1
    · rw[gX i];have j:Hid (Bi (l.take (k+1))=A):=by
       refine qh ?_;rw[HL.out,i,kD,kH,px]
      clear i;go_wp2;go_roundw
      case rel=>exact⟨k+1,v,p,t,s,by go_num,by omega,m.trans f,I.ext f,x.ext f,by rw[j.out];exact M,by rw[j.out];exact a7.ext f⟩
      case measure=>simp[intOf];omega
    · rw[pb i];have aa:=qh (C0 i);have hd0:Hid (q.den≠0):=qh q.den_nz;rw[aa.out]at y;clear i;have e2:=f.cell c2;have e3:=f.cell c3;have R:=x.ext f;have f0:=R.c 0 rfl;have f1:=R.c 1 rfl
      go_wp2_with fail
      refine(QF (r:=decide (q.den=A)) (y.ext f) (V.ext f) (jL.2 (by omega))).mono ?_;rintro e w5 ⟨rfl,ae⟩;have d:=f.trans ae;clear e2 e3 f0 f1;by_cases o:q.den=A
      · rw[gX o];have j:Hid (Bi (l.take (k+1))=A):=by
         refine qh ?_;rw[HL.out,o,Nat.gcd_self,Nat.div_self HP.out,px]
        clear o;go_wp2;go_roundw
        case rel=>exact⟨k+1,v,p,t,s,by go_num,by omega,m.trans d,I.ext d,x.ext d,by rw[j.out];exact M,by rw[j.out];exact a7.ext d⟩
        case measure=>simp[intOf];omega
      · rw[pb o];clear o;have e2:=d.cell c2;have e3:=d.cell c3;have G:=x.ext d;have f0:=G.c 0 rfl;have f1:=G.c 1 rfl;have a2:=TQ (ag.ext d) (V.ext d) (y.ext d) HK.out (Aj a9.out (by omega)) (by have:=HP.out;omega) (by have:=hd0.out;omega);simp only[pe,<-HL.out]at a2
        go_wp2_with fail
        refine a2.mono ?_;rintro e w6 ⟨s6,a6,n6,c6,rfl,H,ab,ak⟩;have av:(Ab s6 a6 n6 c6).toArray=#[.bool s6,.slice a6 n6 c6]:=rfl;have T:=G.ext H;have af:=(I.ext d).ext H
        go_wp2_with(refine Aa (vs:=Ab s6 a6 n6 c6) rfl rfl rfl rfl rfl Ak T rfl (Ad _ _ _ _) ?_;intro w7 ac K)
        go_roundw
        case rel=>exact⟨k+1,s6,a6,n6,c6,by go_num,by omega,((m.trans d).trans H).grownR K (by omega),af.kept K (by simp;omega),ac,ab,ak.kept T (At _ _ _ _) K⟩
        case measure=>simp[intOf];omega
  · have ai:k=n:=by omega
    subst ai;have HT:Hid (l.take k=l):=qh (oL (by omega));rw[HT.out]at M hx;have f0:=Q.c 0 rfl;have f1:=Q.c 1 rfl;have au:(Ab v p t s).toArray=#[.bool v,.slice p t s]:=rfl
    go_wp2_with(refine Aa (vs:=Ab v p t s) rfl rfl rfl rfl rfl Ak D rfl (Ad _ _ _ _) ?_;intro w9 ad ah)
    exact oM (Ai rfl Ak rfl ad) rfl (Bn L D (At _ _ _ _) ah (by omega) M hx)
theorem Au:Agg prog 92 10:=⟨by kernel_rfl,by kernel_rfl⟩
theorem JZ:BT prog 85 (Ah false none 0 0 false none 0 0) 4 64:=⟨by kernel_rfl,rfl,by omega⟩
def Ap(e:List Int)(s:Bool)(a:Option Addr)(n c:Nat)(b:Option Addr)(m d:Nat):List Value:=e.map (Value.int .i64) ++ Ah s a n c false b m d
theorem Cr:BT prog 92 (Ap [0,0,0,0,0,0] false none 0 0 none 0 0) 10 112:=⟨by kernel_rfl,rfl,by omega⟩
def BV(w:World)(row:List Value)(t:Pl.Tm):Prop:=∃ s a n c b m d,row=Ap t.1 s a n c b m d/\t.1.length=6/\CU w (Ah s a n c false b m d) t.2
theorem BV.ext{w f:World}{row:List Value}{t:Pl.Tm}(h:BV w row t)(e:Ext w f):BV f row t:=by
 obtain⟨s,a,n,c,b,m,d,h1,h2,h3⟩:=h;exact⟨s,a,n,c,b,m,d,h1,h2,h3.ext e⟩
def BJ(w:World)(a:Option Addr)(n c:Nat)(l:List Pl.Tm):Prop:=∃ rows,SlK w 10 a n c rows/\l.length=n/\∀ i,i<n->BV w (rows.getD i []) (l.getD i ([],0))
theorem BJ.ext{w d:World}{a:Option Addr}{n c:Nat}{l:List Pl.Tm}(h:BJ w a n c l)(e:Ext w d):BJ d a n c l:=by
 obtain⟨b,h1,h2,h3⟩:=h;exact⟨b,h1.ext e,h2,fun i f=>(h3 i f).ext e⟩
theorem AY{s:Bool} :∀ v∈Ap e s a n c b m d,v.oneCell'=true:=by
 intro v f;rcases il.1 f with f|f
 · obtain⟨x,_,rfl⟩:=gT.1 f;rfl
 · exact Ag _ _ _ _ _ _ _ _ v f
theorem Cs(h:e.length=6):∃ a b c d f g,e=[a,b,c,d,f,g]:=by
 match e,h with
 | [a,b,c,d,f,g],_=>exact⟨a,b,c,d,f,g,rfl⟩
theorem GF{l:List Pl.Tm}(h:BJ w a n c l)(hn:n<=1000000):Calls prog 219 #[.slice a n c] w (fun e Y=>∃ R S,e = .returned (.slice R n S)/\Ext w Y/\Ec Y R n S (l.map (·.2))):=by
 obtain⟨W,hS,U,V⟩:=h;have Z:=qh V;clear V
 go_enter func219,ntmps219
 go_upto_region 2 with(refine ED rfl rfl (by kernel_rfl) JZ rfl rfl (by omega) (by unfold maxLen;omega) ?_;intro w1 r q)
 go_wp2
 go_loopw[11] (fun O wr=>∃ (k:Nat) (F:List (List Value)),O = .int .i64 k/\k<=n/\Ext w wr/\AP wr w.heap.size 85 4 (some ⟨w.heap.size,0,none⟩) n n F/\Hid (∀ i,i<k->CU w (F.getD i []) ((l.map (·.2)).getD i 0))) (fun O _=>n-(intOf O).toNat)
 case atStart=>exact⟨0,_,rfl,oY _,q,r,qh (fun i C=>absurd C (by omega))⟩
 case round =>
  obtain⟨k,F,rfl,hk,p,J,P⟩:=hrel;clear r q;by_cases d:k<n
  · have m:=hS.ext p;obtain⟨b,a1,rfl,_⟩:=m.rd (by omega);obtain⟨G,y,E,A,z,D,B,f,h6,x⟩:=Z.out k d;have Q:Hid ((l.map (·.2)).getD k 0=(l.getD k ([],0)).2):=qh (by simp[U,d]);generalize l.getD k ([],0)=t at *
    obtain⟨te,tq⟩:=t;obtain⟨x0,x1,x2,x3,x4,x5,o⟩:=Cs h6;simp only at o f Q x;subst o;have T:=Arr.new wr 92 (Ap [0,0,0,0,0,0] false none 0 0 none 0 0)
    go_upto_region 5 with(first
     | (refine Bz rfl rfl Au rfl m d ?_;rw[f])
     | (refine Aa (vs:=Ap [x0,x1,x2,x3,x4,x5] G y E A z D B) rfl rfl rfl rfl rfl Au T rfl AY ?_;intro w3 g v))
    have j:Ext wr w3:=((Ext.refl wr).alloc _).grownR v (lrf _);have s:=J.ext j;have I:=p.trans j;clear T v J p j f h6 m;generalize wr.heap.size=X at *
    have c6:=g.c 6 rfl;have c7:=g.c 7 rfl;have c8:=g.c 8 rfl;have c9:=g.c 9 rfl;have a0:(Ah G y E A false z D B).toArray=#[.bool G,.slice y E A,.bool false,.slice z D B]:=rfl;have H:=qh (s.len (by omega))
    go_wp2_with(refine Hk (vs:=Ah G y E A false z D B) rfl rfl (by omega) Af rfl rfl rfl s d rfl (Ag _ _ _ _ _ _ _ _) ?_;intro w4 K L)
    go_roundw
    case rel =>
     refine⟨k+1,_,by go_num,by omega,I.grownR L (lrf _),K,qh fun i C => ?_⟩;by_cases M:i=k
     · subst M;rw[Q.out,gqq,jH (by rw[H.out];exact d)];exact x
     · rw[gqq,List.getElem?_set_ne (by omega),<-gqq];exact P.out i (by omega)
    case measure=>simp[intOf];omega
  · have N:k=n:=by omega
    subst N;go_wp2;go_ret;exact⟨_,_,rfl,p,F,J.slk (by omega),by simp[U],fun i C=>(P.out i C).ext p⟩
theorem Fc{l:List Pl.Tm}(I:AV w)(h:BJ w a n c l)(K:n<=1000000)(E:∀ q∈l.map (·.2),q.den<P2 2400)(D:∀ k,Bi ((l.map (·.2)).take k)<P2 9600):Calls prog 157 #[.slice a n c] w (D8 w (Bi (l.map (·.2)):Int)):=by
 have v:=fun(i:World) (s:Ext w i)=>qh (GF (h.ext s) K);have t:=fun(i:World) (s:Ext w i) (F:Option Addr) (G:Nat) (L:Ec i F n G (l.map (·.2)))=>qh (Kl (I.ext s) L E D);clear E D h
 go_enter func157,ntmps157
 go_upto_region 1 with(fail)
 refine AM ?_;intro M b p A;have H:Arr M w.heap.size 83 (Ab false none 0 0):=p;clear A
 go_wp2_with fail
 refine(v _ b).out.mono ?_;rintro e P ⟨N,O,rfl,d,y⟩
 go_wp2_with fail
 refine(t _ (b.trans d) _ _ y).out.mono ?_;rintro e Q ⟨C,m,B,o,rfl,f,j,z⟩;have J:(Ab C m B o).toArray=#[.bool C,.slice m B o]:=rfl;have g:=(H.ext d).ext f
 go_wp2_with(refine Aa (vs:=Ab C m B o) rfl rfl rfl rfl rfl Ak g rfl (Ad _ _ _ _) ?_;intro R r x)
 exact oM (Ai rfl Ak rfl r) rfl (Bn ((b.trans d).trans f) g (At _ _ _ _) x (lrf _) j z)
def Km(c:UInt8):Bool:=decide (48<=c.toNat) && decide (c.toNat<=57)
theorem Ed{c:UInt8}:Km c=true<->W.isDig c:=by simp[Km,W.isDig]
def pre(l:List UInt8):List UInt8:=l.takeWhile Km
def suf(l:List UInt8):List UInt8:=l.dropWhile Km
theorem Fq(l:List UInt8):pre l ++ suf l=l:=List.takeWhile_append_dropWhile
theorem J0(l:List UInt8):W.digs (pre l):=fun c a=>by
 induction l with
 | nil=>simp[pre]at a
 | cons x r ih =>
  unfold pre at a ih;rw[List.takeWhile_cons]at a;split at a
  · rename_i h;rcases gV.1 a with rfl|a
    · exact Ed.1 h
    · exact ih a
  · simp at a
theorem PH{d:List UInt8}(a:W.digs d)(e:∀ c,r.head?=some c->¬ W.isDig c):pre (d ++ r)=d/\suf (d ++ r)=r:=by
 induction d with
 | nil =>
  cases r with
  | nil=>exact⟨rfl,rfl⟩
  | cons c t =>
   have:Km c=false:=by
    cases h:Km c with
    | false=>rfl
    | true=>exact absurd (Ed.1 h) (e c rfl)
   simp[pre,suf,this]
 | cons x t ih =>
  have f:Km x=true:=Ed.2 (a x (by simp));have:=ih (fun c b=>a c (by simp[b]));unfold pre suf at *
  simp[f,this]
def CV(l:List UInt8):(Bool×List UInt8×List UInt8)×Bool :=
 let neg:Bool:=decide (l.head?=some 45)
 let r1:=if neg=true then l.tail else l
 let num:=pre r1
 let r2:=suf r1
 if num=[48]then((neg,num,[]),!neg && decide (r2=[]))
 else if num=[]\/num.head?=some 48 then((neg,num,[]),false)
 else if r2=[]then((neg,num,[]),true)
 else if r2.head?≠some 47 then((neg,num,[]),false)
 else((neg,num,pre r2.tail),decide (suf r2.tail=[]) && decide (pre r2.tail≠[]) && decide ((pre r2.tail).head?≠some 48) && decide (pre r2.tail≠[49]))
structure Spl(l:List UInt8)(neg:Bool)(num den:List UInt8):Prop where
 eq:l=(if neg=true then [45]else []) ++ (num ++ (if den=[]then []else 47 :: den))
 dn:W.digs num
 dd:W.digs den
 ne:num≠[]
 z:num.head?=some 48->num=[48]/\neg=false/\den=[]
 nd:den.head?≠some 48
 n1:den≠[49]
theorem Uq:¬ W.isDig 45:=by simp[W.isDig]
theorem Ur:¬ W.isDig 47:=by simp[W.isDig]
theorem Spl.split{l f a:List UInt8}{neg:Bool}(h:Spl l neg f a):CV l=((neg,f,a),true):=by
 obtain⟨rfl,h1,h2,h3,h4,h5,h6⟩:=h;obtain⟨c,t,rfl⟩:=ji h3;have q:c≠45:=by rintro rfl;exact Uq (h1 45 (by simp))
 have e:decide (((if neg=true then [45]else []) ++ ((c :: t) ++ (if a=[]then []else 47 :: a))).head?=some 45)=neg:=by
  cases neg <;> simp[q]
 have k:(if neg=true then((if neg=true then [45]else []) ++ ((c :: t) ++ (if a=[]then []else 47 :: a))).tail else(if neg=true then [45]else []) ++ ((c :: t) ++ (if a=[]then []else 47 :: a)))=(c :: t) ++ (if a=[]then []else 47 :: a):=by
  cases neg <;> simp
 have hp:=PH (d:=c :: t) (r:=if a=[]then []else 47 :: a) h1 (by
  intro x g;split at g
  · simp at g
  · simp only[List.head?_cons,oQ]at g
    subst g;exact Ur)
 unfold CV;simp only[e,k,hp.1,hp.2];by_cases m:c=48
 · subst m;obtain⟨n,o,p⟩:=h4 rfl;subst o p;rw[pq n];simp
 · have j:¬ (c :: t=[48]):=by intro h;simp at h;exact m h.1
   rw[pf j,pf (by simp[m])];by_cases i:a=[]
   · subst i;simp
   · simp only[pf i];rw[pf (by simp),pf (by simp)];have b:=PH (d:=a) (r:=[]) h2 (by simp);rw[jp]at b;simp only[mC,b.1,b.2];simp[i,h5,h6]
theorem K7(h:CV l=((neg,num,den),true)):Spl l neg num den:=by
 unfold CV at h;simp only at h;generalize b:decide (l.head?=some 45)=k at h;generalize a:(if k=true then l.tail else l)=i at h;have j:l=(if k=true then [45]else []) ++ i:=by
  cases k with
  | true =>
   simp only[jP]at b;simp only[kJ]at a |-;cases l with
   | nil=>simp at b
   | cons c t=>simp at b a;rw[b,a];rfl
  | false=>simp at a |-; exact a
 have f:=Fq i;have e:=J0 i;generalize pre i=n at *
 generalize suf i=m at *
 split at h
 · rename_i h0;simp only[lA,iH,nL,jP]at h;obtain⟨⟨rfl,rfl,rfl⟩,rfl,rfl⟩:=h;subst h0;exact⟨by rw[j,<-f];simp,e,by simp[W.digs],by simp,fun _=>⟨rfl,rfl,rfl⟩,by simp,by simp⟩
 · split at h
   · simp at h
   · rename_i h0 h1;simp only[not_or]at h1;split at h
     · rename_i h2;simp only[lA,iY]at h;obtain⟨rfl,rfl,rfl⟩:=h;subst h2;exact⟨by rw[j,<-f];simp,e,by simp[W.digs],h1.1,fun h=>absurd h h1.2,by simp,by simp⟩
     · split at h
       · simp at h
       · rename_i h2 h3;have g:m.head?=some 47:=pm h3;obtain⟨c,t,rfl⟩:=ji h2;simp only[List.head?_cons,oQ]at g;subst g;simp only[mC,lA,iH]at h;obtain⟨⟨rfl,rfl,rfl⟩,⟨⟨h4,h5⟩,h6⟩,h7⟩:=h;have h4:=kC h4;have h5:=kC h5;have h6:=kC h6;have h7:=kC h7;have d:=Fq t;rw[h4,jp]at d;refine⟨?_,e,J0 t,h1.1,fun h=>absurd h h1.2,h6,h7⟩;rw[j,<-f,pf h5,d]
theorem L5(z:Int):Lib.itoa z=(if z<0 then [45]else []) ++ Lib.decDigits z.natAbs:=by
 unfold Lib.itoa;split
 · rfl
 · rw[show z.toNat=z.natAbs by omega];rfl
theorem PI(h:(Lib.decDigits n).head?=some 48):n=0:=by
 rcases oV n with h0|h0
 · exact h0
 · obtain⟨c,r,e,a⟩:=W.dec_head h0;rw[e]at h;simp at h;exact absurd h a
def AJ(l:List UInt8):Option Rat :=
 let p:=CV l
 if p.2=true then
  let n:Int:=if p.1.1=true then -(W.decV p.1.2.1:Int)else W.decV p.1.2.1
  if p.1.2.2=[]then some (mkRat n 1)else if n.natAbs.gcd (W.decV p.1.2.2)=1 then some (mkRat n (W.decV p.1.2.2))else none
 else none
theorem PJ(q:Rat):Spl (txt q) (decide (q.num<0)) (Lib.decDigits q.num.natAbs) (if q.den=1 then []else Lib.decDigits q.den):=by
 have a:=q.den_nz;refine⟨?_,W.digs_dec _,?_,W.dec_ne _,?_,?_,?_⟩
 · unfold txt;rw[L5];by_cases h:q.den=1
   · simp[h]
   · simp[h,W.dec_ne]
 · split
   · simp[W.digs]
   · exact W.digs_dec _
 · intro h;have h0:=PI h;have b:q.num=0:=by omega
   have c:=Pl.rat_num_den_zero.1 b;refine⟨by rw[h0,W.dec_zero],by simp[b],?_⟩;subst c;rfl
 · split
   · simp
   · intro h;exact a (PI h)
 · split
   · simp
   · rename_i h1;intro h;have:=gR W.decV h;rw[W.decV_dec]at this;exact h1 (by rw[this];rfl)
theorem Di(q:Rat):AJ (txt q)=some q:=by
 have h:=(PJ q).split;unfold AJ;simp only[h,kJ];have a:(if decide (q.num<0)=true then -((W.decV (Lib.decDigits q.num.natAbs):Nat):Int)else((W.decV (Lib.decDigits q.num.natAbs):Nat):Int))=q.num:=by
  rw[W.decV_dec];by_cases h:q.num<0
  · simp only[h,mK,kJ];omega
  · simp only[h,nM];simp;omega
 rw[a];by_cases h1:q.den=1
 · simp only[h1,kJ];have:=mz q;rw[h1]at this;rw[this]
 · simp only[pf h1,pf (W.dec_ne _),W.decV_dec];rw[pq q.reduced,mz]
theorem Du(h:AJ l=some q):l=txt q:=by
 unfold AJ at h;generalize hp:CV l=p at h;obtain⟨⟨j,a,b⟩,y⟩:=p;simp only at h;cases y with
 | false=>simp at h
 | true =>
  have i:=K7 hp;simp only[kJ]at h;generalize w:(if j=true then -((W.decV a:Nat):Int)else((W.decV a:Nat):Int))=n at h
  have g:Lib.decDigits (W.decV a)=a:=W.dec_of_digs i.dn i.ne (fun c r e s=>by
   have:=(i.z (by rw[e,s];rfl)).1;rw[e]at this;simp at this
   exact this.2)
  have k:n.natAbs=W.decV a:=by rw[<-w];split <;> omega
  have v:n<0<->j=true:=by
   rw[<-w];cases j with
   | false=>simp
   | true =>
    simp only[kJ,iff_true];have h0:W.decV a≠0:=by
     intro h0;rw[h0,W.dec_zero]at g;have:=(i.z (by rw[<-g];rfl)).2.1;simp at this
    omega
  have o:Lib.itoa n=(if j=true then [45]else []) ++ a:=by
   rw[L5,k,g];simp only[v]
  by_cases m:b=[]
  · rw[pq m]at h;simp only[oQ]at h;have:=Pl.rat_eq_mk (q:=q) (n:=n) (d:=1) (by omega) (kD _) h.symm;rw[i.eq,txt,this.1,this.2,o,m];simp
  · rw[pf m]at h;split at h
    · rename_i x;simp only[oQ]at h
      have f:Lib.decDigits (W.decV b)=b:=W.dec_of_digs i.dd m (fun c r e s=>by
       have:=i.nd;rw[e,s]at this
       simp at this)
      have hd0:W.decV b≠0:=by
       intro h0;rw[h0,W.dec_zero]at f;have:=i.nd;rw[<-f]at this;simp at this
      have t:W.decV b≠1:=by
       intro h0;rw[h0]at f;have:=i.n1;rw[<-f]at this;exact this (by rw[Lib.decDigits];rfl)
      have:=Pl.rat_eq_mk (q:=q) (n:=n) (d:=W.decV b) hd0 x h.symm;rw[i.eq,txt,this.1,this.2,o,pf m,pf t,f];simp
    · simp at h
section
variable {P:Program} {w:World}
theorem QX{o:Nat}(c:(P.info? ty).map (·.size)=some vs.length)(j:v.cells=vs.toArray)(h:Arr w g t cs)(f:o+vs.length<=cs.length)(h1:∀ v∈vs,v.oneCell'=true)(b:cs.take o ++ vs ++ cs.drop (o+vs.length)=new) :
 ∃ e,(Instr.storeAt ty (.pointer (some ⟨g,o,none⟩)) v).run P w = .ok () e/\Arr e g t new/\w.grownBy e (some g):=by
 have a:=run_storeCells_at (P:=P) g o t vs 0 cs.toArray w h (by simpa using f) h1;rw[gP]at a;simp only[b]at a;refine⟨w.setRow g new.toArray,?_,B0 h new,Bs w g _⟩;cases d:P.info? ty with
 | none=>simp[d]at c
 | some inf =>
  have i:inf.size=vs.length:=by simpa[d]using c
  simp[Instr.storeAt,Instr.sureAddr,storeVar,Go.sizeOf,typeInfo,d,j,i,a]
theorem C5(j:o.guard=none)(n:o.op = .store ty x y)
 {g a:Nat} {t:TypeId} {cs:List Value} (vs d:List Value) {v:Value} (k:(P.info? ty).map (·.size)=some vs.length) (q:f.eval x = .pointer (some ⟨g,a,none⟩)) (r:f.eval y=v) (p:v.cells=vs.toArray) (h:Arr w g t cs) (m:a+vs.length<=cs.length) (h1:∀ v∈vs,v.oneCell'=true) (b:cs.take a ++ vs ++ cs.drop (a+vs.length)=d)
 (l:∀ e,Arr e g t d->w.grownBy e (some g)->wpList P ops Q rest (f.put o.dst undef) e):wpList P ops Q (o :: rest) f w:=by
 refine iI j fun K i => ?_;obtain⟨e,c,h2,h3⟩:=QX (P:=P) k p h m h1 b;unfold Oper.wp execOp;simp only[n,q,r,gI,c,p9,gS,Oper.upon];exact i _ _ (l _ h2 h3)
end
theorem EE(h:k<s.size):(Al s).getD k 0=s[k]:=by
 have h1:k<(Al s).length:=by rw[Ax];exact h
 rw[gqq,oN h1];rfl
theorem T4(h:s.size=0):Al s=[]:=oX (by rw[Ax];exact h)
theorem V7(h0:0<s.size):((s.extract 0 1).toList == [45])=decide ((Al s).head?=some 45)/\(Al s).tail=Al (s.extract 1 s.size):=by
 have b:(s.extract 0 1).toList=Al (s.extract 0 1):=jb ..;rw[b,Ba,Ba];have a:=Ax s;generalize Al s=l at *
 cases l with
 | nil=>simp at a;omega
 | cons c r =>
  refine⟨?_,?_⟩
  · simp;by_cases h:c=45 <;> simp[h]
  · simp only[mC,kf,iw];rw[oL (by simp at a;omega)]
theorem Kn(s:ByteArray)(w:World) :
 Calls prog 200 #[.string s,.string { data:=#[45] }] w fun e d=>e = .returned (.tuple #[.string ⟨(if(Al s).head?=some 45 then(Al s).tail else Al s).toArray⟩,.bool (decide ((Al s).head?=some 45))])/\d=w:=by
 by_cases h0:s.size=0
 · have e:=T4 h0;have c:s=⟨#[]⟩:=EB e;subst c
   go_enter func200,ntmps200
   go_wp2
   go_ret2
   exact⟨rfl,rfl⟩
 · have h1:(1:Int)<=(s.size:Int):=by omega
   obtain⟨a,b⟩:=V7 (s:=s) (by omega);by_cases h:(Al s).head?=some 45
   · simp only[h,kJ,mK]at a |-
     go_enter func200,ntmps200
     go_wp2
     go_ret2
     exact⟨by rw[b];rfl,rfl⟩
   · simp only[h,mI,nM]at a |-
     go_enter func200,ntmps200
     go_wp2
     go_ret2
     exact⟨rfl,rfl⟩
theorem Vp(b:k<(pre l).length):k<l.length/\48<=(l.getD k 0).toNat/\(l.getD k 0).toNat<=57:=by
 have a:=Fq l;have c:=gR List.length a;rw[iD]at c;have h1:l.getD k 0=(pre l)[k]:=by
  have:(pre l ++ suf l).getD k 0=(pre l)[k]:=by simp[gF b,b]
  rw[a]at this;exact this
 have h2:=J0 l _ (iF b);rw[h1];exact⟨by omega,h2.1,h2.2⟩
theorem SM(h:(pre l).length<l.length):¬ (48<=(l.getD (pre l).length 0).toNat/\(l.getD (pre l).length 0).toNat<=57):=by
 induction l with
 | nil=>simp at h
 | cons c r ih =>
  by_cases a:Km c=true
  · have e:pre (c :: r)=c :: pre r:=by simp[pre,a]
    rw[e]at h |-;simp only[io,kc]at h |-;exact ih (by omega)
  · have e:pre (c :: r)=[]:=by simp[pre,a]
    rw[e];simpa[Km]using a
theorem FC(s:ByteArray)(w:World)(q:s.size<=1000000) :
 Calls prog 201 #[.string s] w fun e p=>e = .returned (.tuple #[.string ⟨(pre (Al s)).toArray⟩,.string ⟨(suf (Al s)).toArray⟩])/\Ext w p:=by
 obtain⟨K,b⟩:∃ K,(pre (Al s)).length=K:=⟨_,rfl⟩
 have j:Hid (∀ k,k<K->∃ h:k<s.size,48<=((s[k].toNat:Nat):Int)/\((s[k].toNat:Nat):Int)<=57):=qh fun k o=>by
  obtain⟨h1,h2,h3⟩:=Vp (l:=Al s) (k:=k) (by omega);rw[Ax]at h1;rw[EE h1]at h2 h3;exact⟨h1,by omega,by omega⟩
 have m:Hid (∀ h:K<s.size,¬ (48<=((s[K].toNat:Nat):Int)/\((s[K].toNat:Nat):Int)<=57)):=qh fun h=>by
  have h1:=SM (l:=Al s) (by rw[Ax,b];exact h);rw[b,EE h]at h1;omega
 have n:K<=s.size:=by
  have:=gR List.length (Fq (Al s));rw[iD,Ax]at this;omega
 have a:Hid (pre (Al s)=Al (s.extract 0 K)/\suf (Al s)=Al (s.extract K s.size)):=by
  have h1:=Fq (Al s);refine qh ⟨?_,?_⟩
  · rw[Ba,iw,mw];have h2:(pre (Al s) ++ suf (Al s)).take K=pre (Al s):=by rw[<-b];simp
    rw[h1]at h2;exact h2.symm
  · rw[Ba];have h2:(pre (Al s) ++ suf (Al s)).drop K=suf (Al s):=by rw[<-b];simp
    rw[h1]at h2;rw[h2,oL];rw[<-h2,jV,Ax];omega
 clear b
 go_enter func201,ntmps201
 go_wp2
 go_loop[4] (fun g=>∃ k:Nat,g = .int .i64 k/\k<=K) (fun g=>K-(intOf g).toNat)
 case atStart=>exact⟨0,rfl,oY _⟩
 case round =>
  obtain⟨k,rfl,o⟩:=hrel;by_cases d:k<K
  · obtain⟨h1,h2,h3⟩:=j.out k d;go_wp2;go_round
    case rel=>exact⟨k+1,by go_num,by omega⟩
    case measure=>simp[intOf];omega
  · have c:k=K:=by omega
    subst c;by_cases f:k<s.size
    · have h1:=m.out f;by_cases h2:48<=((s[k].toNat:Nat):Int)
      · have h3:¬ ((s[k].toNat:Nat):Int)<=57:=fun h3=>h1 ⟨h2,h3⟩;clear h1;go_wp2
        go_quiet (fail)
        go_wp2
        go_ret2
        exact⟨by rw[a.out.1,a.out.2];rfl,(Ext.refl w).drewN _⟩
      · clear h1;go_wp2
        go_quiet (fail)
        go_wp2
        go_ret2
        exact⟨by rw[a.out.1,a.out.2];rfl,(Ext.refl w).drewN _⟩
    · have i:¬ (k:Int)<(s.size:Int):=by omega
      go_wp2
      go_quiet (fail)
      go_wp2
      go_ret2
      exact⟨by rw[a.out.1,a.out.2];rfl,(Ext.refl w).drewN _⟩
theorem L6{c:UInt8}{t:List UInt8}(h:c≠UInt8.ofNat n):((((({ data:=(c :: t).toArray }:ByteArray)[0]'(by show 0<(c :: t).toArray.size;simp)).toNat:Nat):Int) == (n:Int))=false:=by
 show((c.toNat:Int) == (n:Int))=false;have h1:c.toNat≠n:=fun e=>h (by rw[<-e];simp);simp;omega
theorem d49{d:UInt8}:decide (d :: dt≠[49])=(!d == 49 || !dt.isEmpty):=by
 by_cases h1:d=49 <;> cases dt <;> simp[h1]
theorem Bg:Agg prog 175 3:=⟨by kernel_rfl,by kernel_rfl⟩
def Cd(neg:Bool)(num den:List UInt8):List Value:=[.bool neg,.string ⟨num.toArray⟩,.string ⟨den.toArray⟩]
theorem CA(neg:Bool)(b a:List UInt8):∀ v∈Cd neg b a,v.oneCell'=true:=by
 intro v c;simp only[Cd,gV,jN,me]at c;rcases c with rfl|rfl|rfl <;> rfl
theorem QY(s:ByteArray)(w:World)(hs:s.size<=1000000) :
 Calls prog 138 #[.string s] w fun e w'=>e = .returned (.tuple #[.agg (Cd (CV (Al s)).1.1 (CV (Al s)).1.2.1 (CV (Al s)).1.2.2).toArray,.bool (CV (Al s)).2])/\Ext w w':=by
 obtain⟨a,o⟩:∃ b:Bool,decide ((Al s).head?=some 45)=b:=⟨_,rfl⟩;have K:=Kn s;rw[o]at K;have a1:(if(Al s).head?=some 45 then(Al s).tail else Al s)=if a=true then(Al s).tail else Al s:=by rw[<-o];by_cases h:(Al s).head?=some 45 <;> simp[h]
 rw[a1]at K;obtain⟨P,W⟩:∃ P,CV (Al s)=P:=⟨_,rfl⟩;rw[W];unfold CV at W;simp only[o]at W;have a2:(if a=true then(Al s).tail else Al s).length<=1000000:=by
  have:=Ax s;split
  · simp;omega
  · omega
 clear a1 o;generalize (if a=true then(Al s).tail else Al s)=M at *
 have Z:=fun(wx:World)=>qh (FC ⟨M.toArray⟩ wx (by show M.toArray.size<=_;simpa using a2));simp only[CG]at Z;have a5:(suf M).length<=1000000:=by have:=gR List.length (Fq M);rw[iD]at this;omega
 generalize pre M=v at *
 generalize suf M=r2 at *
 have m:=qh W;clear W a2
 go_enter func138,ntmps138
 go_upto_region 2 with(fail)
 refine Ch ?_;intro w0 R O Q a6;have hR:Arr w0 w.heap.size 175 (Cd false [] []):=O;have hF:Arr w0 (w.heap.size+1) 175 (Cd false [] []):=Q;clear O Q a6
 go_wp2_with fail
 refine(K w0).mono ?_;rintro e w1 ⟨rfl,rfl⟩
 go_upto_region 4 with(refine C5 rfl rfl [.bool a] (Cd a [] []) (by kernel_rfl) rfl rfl rfl hF (by simp[Cd]) (by simp[Value.oneCell']) rfl ?_;intro w2 T H)
 have S:=R.grownR H (by omega);have X:=hR.kept H (by simp);clear R hR hF H
 go_wp2_with fail
 refine(Z w2).out.mono ?_;rintro e w3 ⟨rfl,z⟩;have U:=T.ext z
 go_upto_region 5 with(refine C5 rfl rfl [.string ⟨v.toArray⟩] (Cd a v []) (by kernel_rfl) rfl rfl rfl U (by simp[Cd]) (by simp[Value.oneCell']) rfl ?_;intro w4 q I)
 have k:=(S.trans z).grownR I (by omega);have l:=(X.ext z).kept I (by simp);clear S z U T X I;have c0:=q.c 0 rfl;have c1:=q.c 1 rfl;have c2:=q.c 2 rfl;by_cases h48:v=[48]
 · subst h48;cases a with
   | true =>
    have j:Hid (((true,[48],[]),false)=P):=by rw[<-m.out,pq rfl];exact qh (by simp)
    go_wp2_with(refine Aa (vs:=Cd true [48] []) rfl rfl rfl rfl rfl Bg l rfl (CA _ _ _) ?_;intro w9 f g)
    refine oM (Ar rfl Bg rfl rfl f) rfl ⟨?_,k.grownR g (by omega)⟩;rw[<-j.out];rfl
   | false =>
    have j:Hid (((false,[48],[]),r2.isEmpty)=P):=by rw[<-m.out,pq rfl];exact qh (by cases r2 <;> rfl)
    go_wp2_with(refine Aa (vs:=Cd false [48] []) rfl rfl rfl rfl rfl Bg l rfl (CA _ _ _) ?_;intro w9 f g)
    refine oM (Ar rfl Bg rfl rfl f) rfl ⟨?_,k.grownR g (by omega)⟩;rw[<-j.out];rfl
 · have a7:(v == [48])=false:=by simpa using h48
   rw[pf h48]at m;by_cases h0:v=[]
   · subst h0;have j:Hid (((a,[],[]),false)=P):=by rw[<-m.out,pq (Or.inl rfl)];exact qh rfl
     go_wp2_with(refine Aa (vs:=Cd a [] []) rfl rfl rfl rfl rfl Bg l rfl (CA _ _ _) ?_;intro w9 f g)
     refine oM (Ar rfl Bg rfl rfl f) rfl ⟨?_,k.grownR g (by omega)⟩;rw[<-j.out];rfl
   · obtain⟨c,p,rfl⟩:=ji h0;by_cases hc:c=48
     · subst hc;have j:Hid (((a,48 :: p,[]),false)=P):=by rw[<-m.out,pq (Or.inr (by simp))];exact qh rfl
       go_wp2_with(refine Aa (vs:=Cd a (48 :: p) []) rfl rfl rfl rfl rfl Bg l rfl (CA _ _ _) ?_;intro w9 f g)
       refine oM (Ar rfl Bg rfl rfl f) rfl ⟨?_,k.grownR g (by omega)⟩;rw[<-j.out];rfl
     · rw[pf (by simp[hc])]at m;have a4:=L6 (t:=p) (n:=48) hc;by_cases hr:r2=[]
       · subst hr;have j:Hid (((a,c :: p,[]),true)=P):=by rw[<-m.out,pq rfl];exact qh rfl
         go_wp2_with(refine Aa (vs:=Cd a (c :: p) []) rfl rfl rfl rfl rfl Bg l rfl (CA _ _ _) ?_;intro w9 f g)
         refine oM (Ar rfl Bg rfl rfl f) rfl ⟨?_,k.grownR g (by omega)⟩;rw[<-j.out];rfl
       · obtain⟨d,E,rfl⟩:=ji hr;rw[pf (by simp)]at m;by_cases hd:d=47
         · subst hd;rw[pf (by simp)]at m;have L:Al (({ data:=(47 :: E).toArray }:ByteArray).extract 1 (E.length+1))=E:=by
            rw[Ba,CG,kf,iw,jS,kw]
           have r:=FC (({ data:=(47 :: E).toArray }:ByteArray).extract 1 (E.length+1)) w4 (by rw[<-Ax,L];simp at a5;omega);rw[L]at r;have N:=qh r;clear r L;obtain⟨y,D⟩:∃ d,pre E=d:=⟨_,rfl⟩;obtain⟨r3,a3⟩:∃ d,suf E=d:=⟨_,rfl⟩;simp only[mC,D,a3]at m N;clear D a3
           go_wp2_with fail
           refine N.out.mono ?_;rintro e w5 ⟨rfl,A⟩;have V:=q.ext A;have Y:=l.ext A
           go_upto_region 14 with(refine C5 rfl rfl [.string ⟨y.toArray⟩] (Cd a (c :: p) y) (by kernel_rfl) rfl rfl rfl V (by simp[Cd]) (by simp[Value.oneCell']) rfl ?_;intro w6 F J)
           have B:=(k.trans A).grownR J (by omega);have i:=Y.kept J (by simp);clear k A V q l Y J c0 c1 c2 a4;have c0:=F.c 0 rfl;have c1:=F.c 1 rfl;have c2:=F.c 2 rfl;have d0:=i.c 0 rfl;have d1:=i.c 1 rfl;have d2:=i.c 2 rfl;have f0:=i.frozen 0;have f1:=i.frozen 1;have f2:=i.frozen 2;by_cases h3:r3=[]
           · subst h3;by_cases hd0:y=[]
             · subst hd0;have j:Hid (((a,c :: p,[]),false)=P):=by rw[<-m.out];exact qh (by simp)
               go_region
               go_wp2;refine oM (Ar rfl Bg rfl rfl (((i.set 0 _).set 1 _).set 2 _)) rfl ⟨?_,(((B.setCell (lrf _) _).setCell (lrf _) _).setCell (lrf _) _).drew⟩;rw[<-j.out];rfl
             · obtain⟨d,C,rfl⟩:=ji hd0;by_cases G:d=48
               · subst G;have a0:((((({ data:=(48 :: C).toArray }:ByteArray)[0]'(by show 0<(48 :: C).toArray.size;simp)).toNat:Nat):Int) != 48)=false:=rfl;have j:Hid (((a,c :: p,48 :: C),false)=P):=by rw[<-m.out];exact qh (by simp)
                 go_region
                 go_wp2;refine oM (Ar rfl Bg rfl rfl (((i.set 0 _).set 1 _).set 2 _)) rfl ⟨?_,(((B.setCell (lrf _) _).setCell (lrf _) _).setCell (lrf _) _).drew⟩;rw[<-j.out];rfl
               · have a0:((((({ data:=(d :: C).toArray }:ByteArray)[0]'(by show 0<(d :: C).toArray.size;simp)).toNat:Nat):Int) != 48)=true:=gR (!·) (L6 (t:=C) (n:=48) G);have j:Hid (((a,c :: p,d :: C),(!d == 49 || !C.isEmpty))=P):=by rw[<-m.out];exact qh (by rw[lA];refine⟨rfl,?_⟩;rw[d49];simp[G])
                 go_region
                 go_wp2;refine oM (Ar rfl Bg rfl rfl (((i.set 0 _).set 1 _).set 2 _)) rfl ⟨?_,(((B.setCell (lrf _) _).setCell (lrf _) _).setCell (lrf _) _).drew⟩;rw[<-j.out];rfl
           · obtain⟨x,xt,rfl⟩:=ji h3;have j:Hid (((a,c :: p,y),false)=P):=by rw[<-m.out];exact qh (by simp)
             go_region
             go_wp2;refine oM (Ar rfl Bg rfl rfl (((i.set 0 _).set 1 _).set 2 _)) rfl ⟨?_,(((B.setCell (lrf _) _).setCell (lrf _) _).setCell (lrf _) _).drew⟩;rw[<-j.out];rfl
         · have a0:=L6 (t:=E) (n:=47) hd;have j:Hid (((a,c :: p,[]),false)=P):=by rw[<-m.out,pq (by simp[hd])];exact qh rfl
           go_wp2_with(refine Aa (vs:=Cd a (c :: p) []) rfl rfl rfl rfl rfl Bg l rfl (CA _ _ _) ?_;intro w9 f g)
           refine oM (Ar rfl Bg rfl rfl f) rfl ⟨?_,k.grownR g (by omega)⟩;rw[<-j.out];rfl
def Wr(w:World)(o:Option Rat)(e:Ending)(w':World):Prop:=∃ cs,e = .returned (.tuple #[.agg cs.toArray,.bool o.isSome])/\Ext w w'/\CU w' cs (o.getD 0)
theorem PK(a:W.digs l)(b:l.length<=570):W.decV l<P2 2280:=by
 have h1:=W.decV_lt a;have h2:10^l.length<=16^l.length:=iV (by omega) _;have h3:16^l.length=P2 (4*l.length):=by unfold P2;rw[jO]
 have h4:P2 (4*l.length)<=P2 2280:=Pq (by omega);omega
theorem Ee(w:World):CU w (Ah false none 0 0 false none 0 0) 0:=⟨false,none,0,0,none,0,0,rfl,qh rfl,Wd.nil w,Wd.nil w⟩
theorem J1(hT:AV w)(hs:s.size<=570):Calls prog 67 #[.string s] w (Wr w (AJ (Al s))):=by
 have an:=QY s;have b7:(Ah false none 0 0 false none 0 0).toArray=#[.bool false,.slice none 0 0,.bool false,.slice none 0 0]:=rfl;obtain⟨⟨⟨ab,j,a⟩,ok⟩,hP⟩:∃ P,CV (Al s)=P:=⟨_,rfl⟩;simp only[hP]at an;have b2:(Cd ab j a).toArray=#[.bool ab,.string ⟨j.toArray⟩,.string ⟨a.toArray⟩]:=rfl;rw[b2]at an;cases ok with
 | false =>
  have HQ:Hid (AJ (Al s)=none):=qh (by unfold AJ;simp[hP]);rw[HQ.out];clear hP
  go_enter func67,ntmps67
  go_upto_region 1 with(fail)
  refine AM ?_;intro w0 au ae aQ;have hR:Arr w0 w.heap.size 85 (Ah false none 0 0 false none 0 0):=ae;clear ae aQ
  go_wp2_with fail
  refine(an w0 (by omega)).mono ?_;rintro e w1 ⟨rfl,V⟩;have hY:=Arr.new w1 175 (Cd false [] [])
  go_upto_region 2 with(refine Aa (vs:=Cd ab j a) rfl rfl rfl rfl rfl Bg hY rfl (CA _ _ _) ?_;intro w2 b6 az)
  have a4:Ext w1 w2:=((Ext.refl w1).alloc _).grownR az (lrf _);have aw:=(hR.ext V).ext a4;have av:=(au.trans V).trans a4
  go_wp2_with(refine Aa (vs:=Ah false none 0 0 false none 0 0) rfl rfl rfl rfl rfl Af aw rfl (Ag _ _ _ _ _ _ _ _) ?_;intro w9 af Z)
  exact oM (Ar rfl Af rfl rfl af) rfl ⟨_,rfl,av.grownR Z (lrf _),Ee _⟩
 | true =>
  have hS:=K7 hP;have hl:j.length<=570/\a.length<=570:=by
   have h1:=gR List.length hS.eq;rw[Ax]at h1;simp only[iD]at h1;refine⟨by omega,?_⟩;by_cases h:a=[]
   · simp[h]
   · rw[pf h]at h1;simp at h1;omega
  have aX:=fun wx=>qh (K5 (s:=⟨j.toArray⟩) (w:=wx) (by rw[CG];exact hS.dn) (by show j.toArray.size<=_;simpa using hl.1));have aO:=fun wx=>qh (K5 (s:=⟨a.toArray⟩) (w:=wx) (by rw[CG];exact hS.dd) (by show a.toArray.size<=_;simpa using hl.2));rw[CG]at aX aO;have aS:=qh (PK hS.dn hl.1);have aT:=qh (PK hS.dd hl.2);obtain⟨z,hz⟩:∃ z:Int,(if ab=true then -((W.decV j:Nat):Int)else((W.decV j:Nat):Int))=z:=⟨_,rfl⟩;have aZ:z.natAbs=W.decV j:=by rw[<-hz];split <;> omega
  obtain⟨o,HO⟩:∃ o,Hid (AJ (Al s)=o/\o=if a=[]then some (mkRat z 1)else if z.natAbs.gcd (W.decV a)=1 then some (mkRat z (W.decV a))else none):=⟨_,qh ⟨rfl,by unfold AJ;simp[hP,hz]⟩⟩;rw[HO.out.1]
  have aU:Hid (a≠[]->W.decV a≠0/\W.decV a≠1):=qh fun hd=>by
   have ay:Lib.decDigits (W.decV a)=a:=W.dec_of_digs hS.dd hd (fun c r e hc=>by
    have:=hS.nd;rw[e,hc]at this
    simp at this)
   refine⟨fun h0 => ?_,fun h0 => ?_⟩
   · rw[h0,W.dec_zero]at ay;have:=hS.nd;rw[<-ay]at this;simp at this
   · rw[h0]at ay;have:=hS.n1;rw[<-ay]at this;exact this (by rw[Lib.decDigits];rfl)
  clear hP hS hl
  go_enter func67,ntmps67
  go_upto_region 1 with(fail)
  refine AM ?_;intro w0 au ae aQ;have hR:Arr w0 w.heap.size 85 (Ah false none 0 0 false none 0 0):=ae;clear ae aQ
  go_wp2_with fail
  refine(an w0 (by omega)).mono ?_;rintro e w1 ⟨rfl,V⟩;have hY:=Arr.new w1 175 (Cd false [] [])
  go_upto_region 2 with(refine Aa (vs:=Cd ab j a) rfl rfl rfl rfl rfl Bg hY rfl (CA _ _ _) ?_;intro w2 a7 az)
  have a4:Ext w1 w2:=((Ext.refl w1).alloc _).grownR az (lrf _);have aw:=(hR.ext V).ext a4;have av:=(au.trans V).trans a4;have hF:w.heap.size<w1.heap.size:=(hR.ext V).lt;clear hR au V a4 hY az an;generalize w1.heap.size=F at *
  have c0:=a7.c 0 rfl;have c1:=a7.c 1 rfl;have c2:=a7.c 2 rfl
  go_wp2_with fail
  refine(aX w2).out.mono ?_;rintro e w3 ⟨Q,H,J,I,rfl,aI,a2,aY⟩;have b3:(Ab Q H J I).toArray=#[.bool Q,.slice H J I]:=rfl;have hY:=Arr.new w3 85 (Ah false none 0 0 false none 0 0)
  go_upto_region 5 with(refine Aa (vs:=Ah Q H J I false none 0 0) rfl rfl rfl rfl rfl Af hY rfl (Ag _ _ _ _ _ _ _ _) ?_;intro w4 a9 aW)
  have aJ:Ext w3 w4:=((Ext.refl w3).alloc _).grownR aW (lrf _);have aq:=aI.trans aJ;have ax:=aw.ext aq;have ar:=av.trans aq;have aA:=aY.ext aJ;have ai:=a7.ext aq;have hX:F<w3.heap.size:=(a7.ext aI).lt;clear aw av aI aJ aY hY aW b3 c0 c1 c2 a7 aq;generalize w3.heap.size=X at *
  have c0:=ai.c 0 rfl;have aH:=qh aZ;clear aZ;cases ab with
  | true =>
   have aa:z = -((W.decV j:Nat):Int):=by rw[<-hz];rfl
   have x0:=a9.c 0 rfl;have x1:=a9.c 1 rfl;have aN:=IE (w:=w4) (v := .agg (Ab Q H J I).toArray) ⟨Q,H,J,I,rfl,a2,aA⟩;rw[<-aa]at aN;have aV:=qh aN;have b0:=qh aa;clear aN hz aa
   go_wp2_with fail
   refine aV.out.mono ?_;rintro e b8 ⟨U,R,T,S,rfl,L,aF,aR⟩;have b4:(Ab U R T S).toArray=#[.bool U,.slice R T S]:=rfl;have aB:=a9.ext L
   go_upto_region 7 with(refine C5 rfl rfl (Ab U R T S) (Ah U R T S false none 0 0) (by kernel_rfl) rfl rfl rfl aB (by simp[Ah,Ab]) (Ad _ _ _ _) rfl ?_;intro w5 g am)
   have Y:=(ar.trans L).grownR am (by omega);have C:=(ax.ext L).kept am (by simp;omega);have aj:=(ai.ext L).kept am (by simp;omega);have a0:=aR.kept aB (AC _ _ _ _ _ _ _ _) am;clear x0 x1 c0 aV b0 ar L aR aB am ax ai a9 aA b4 a2;have c2:=aj.c 2 rfl;have x0:=g.c 0 rfl;have x1:=g.c 1 rfl;by_cases hd:a=[]
   · subst hd;have HQ:Hid (o=some (mkRat z 1)):=qh (by rw[HO.out.2,pq rfl]);have K:=qh (Pl.rat_eq_mk (q:=mkRat z 1) (n:=z) (d:=1) (by omega) (kD _) rfl);have x2:=g.c 2 rfl;have x3:=g.c 3 rfl;have aM:(Ah U R T S false none 0 0).toArray=#[.bool U,.slice R T S,.bool false,.slice none 0 0]:=rfl
     go_wp2_with(refine Aa (vs:=Ah U R T S false none 0 0) rfl rfl rfl rfl rfl Af C rfl (Ag _ _ _ _ _ _ _ _) ?_;intro w9 af Z)
     refine oM (Ar rfl Af rfl rfl af) rfl ?_;rw[HQ.out];refine⟨_,rfl,Y.grownR Z (lrf _),U,R,T,S,none,0,0,rfl,?_,?_,?_⟩
     · show Hid (decide ((mkRat z 1).num<0)=U);rw[K.out.1];exact aF
     · show Wd w9 R T S (mkRat z 1).num.natAbs;rw[K.out.1];exact a0.kept C (AC _ _ _ _ _ _ _ _) Z
     · show Wd w9 none 0 0 (AN (mkRat z 1)).natAbs;rw[AA.2 K.out.2];exact Wd.nil _
   · have b1:a.isEmpty=false:=by cases a with | nil=>exact absurd rfl hd | cons _ _=>rfl
     go_wp2_with fail
     refine(aO w5).out.mono ?_;rintro e w6 ⟨s6,x,A,y,rfl,B,ad,ao⟩;have aP:s6=false:=by rw[<-ad.out];exact pb (by omega)
     subst aP;have aL:(Ab false x A y).toArray=#[.bool false,.slice x A y]:=rfl;have E:=g.ext B;have ak:=C.ext B;have M:=Y.trans B;have O:=a0.ext B;clear g C Y a0 x0 x1 c2 aj
     go_upto_region 10 with(refine C5 rfl rfl (Ab false x A y) (Ah U R T S false x A y) (by kernel_rfl) rfl rfl rfl E (by simp[Ah,Ab]) (Ad _ _ _ _) rfl ?_;intro w7 i m)
     have l:=M.grownR m (by omega);have al:=ak.kept m (by simp;omega);have p:=O.kept E (AC _ _ _ _ _ _ _ _) m;have t:=ao.kept E (AC _ _ _ _ _ _ _ _) m;clear E ak M O ao m aL;have x0:=i.c 0 rfl;have x1:=i.c 1 rfl;have x2:=i.c 2 rfl;have x3:=i.c 3 rfl;have hg:=qh (Ez (hT.ext l) ⟨U,R,T,S,rfl,aF,p⟩ ⟨false,x,A,y,rfl,ad,t⟩ (by rw[aH.out];exact Aj aS.out (by omega)) (Aj aT.out (by omega)));rw[pe]at hg
     go_wp2_with fail
     refine hg.out.mono ?_;rintro e w8 ⟨s8,a8,n8,c8,rfl,ag,aG,ap⟩;have aK:=qh (Cw (w:=w8) ⟨s8,a8,n8,c8,rfl,aG,ap⟩ rfl);have b5:(Ab s8 a8 n8 c8).toArray=#[.bool s8,.slice a8 n8 c8]:=rfl
     go_wp2_with fail
     refine aK.out.mono ?_;rintro e w9 ⟨rfl,ah⟩;have b:=ag.trans ah;have G:=i.ext b;have D:=al.ext b;have N:=l.trans b;have aD:=p.ext b;have aE:=t.ext b;clear i al l p t x0 x1 x2 x3 b ag ah ap;have ac:=qh (aU.out hd);by_cases h1:z.natAbs.gcd (W.decV a)=1
     · have HQ:Hid (o=some (mkRat z (W.decV a))):=qh (by rw[HO.out.2,pf hd,pq h1]);have K:=qh (Pl.rat_eq_mk (q:=mkRat z (W.decV a)) (n:=z) (d:=W.decV a) ac.out.1 h1 rfl);rw[h1];have x0:=G.c 0 rfl;have x1:=G.c 1 rfl;have x2:=G.c 2 rfl;have x3:=G.c 3 rfl;have aM:(Ah U R T S false x A y).toArray=#[.bool U,.slice R T S,.bool false,.slice x A y]:=rfl
       go_wp2_with(refine Aa (vs:=Ah U R T S false x A y) rfl rfl rfl rfl rfl Af D rfl (Ag _ _ _ _ _ _ _ _) ?_;intro a1 k f)
       refine oM (Ar rfl Af rfl rfl k) rfl ?_;rw[HQ.out];refine⟨_,rfl,N.grownR f (lrf _),U,R,T,S,x,A,y,rfl,?_,?_,?_⟩
       · show Hid (decide ((mkRat z (W.decV a)).num<0)=U);rw[K.out.1];exact aF
       · show Wd a1 R T S (mkRat z (W.decV a)).num.natAbs;rw[K.out.1];exact aD.kept D (AC _ _ _ _ _ _ _ _) f
       · show Wd a1 x A y (AN (mkRat z (W.decV a))).natAbs;rw[C0 (by rw[K.out.2];exact ac.out.2),K.out.2];exact aE.kept D (AC _ _ _ _ _ _ _ _) f
     · have HQ:Hid (o=none):=qh (by rw[HO.out.2,pf hd,pf h1]);have aC:decide (((z.natAbs.gcd (W.decV a):Nat):Int)=1)=false:=pb (by omega);rw[aC];clear h1
       go_wp2_with(refine Aa (vs:=Ah false none 0 0 false none 0 0) rfl rfl rfl rfl rfl Af D rfl (Ag _ _ _ _ _ _ _ _) ?_;intro a1 k f)
       refine oM (Ar rfl Af rfl rfl k) rfl ?_;rw[HQ.out];exact⟨_,rfl,N.grownR f (lrf _),Ee _⟩
  | false =>
   have aa:z=((W.decV j:Nat):Int):=by rw[<-hz];rfl
   rw[<-aa]at a2;have a0:Wd w4 H J I z.natAbs:=by rw[aH.out];exact aA
   have Y:=ar;have C:=ax;have aj:=ai;have g:=a9;clear ar ax ai a9 aA hz aa
   go_upto_region 7 with(fail)
   clear c0;have c2:=aj.c 2 rfl;have x0:=g.c 0 rfl;have x1:=g.c 1 rfl;by_cases hd:a=[]
   · subst hd;have HQ:Hid (o=some (mkRat z 1)):=qh (by rw[HO.out.2,pq rfl]);have K:=qh (Pl.rat_eq_mk (q:=mkRat z 1) (n:=z) (d:=1) (by omega) (kD _) rfl);have x2:=g.c 2 rfl;have x3:=g.c 3 rfl;have aM:(Ah Q H J I false none 0 0).toArray=#[.bool Q,.slice H J I,.bool false,.slice none 0 0]:=rfl
     go_wp2_with(refine Aa (vs:=Ah Q H J I false none 0 0) rfl rfl rfl rfl rfl Af C rfl (Ag _ _ _ _ _ _ _ _) ?_;intro w9 af Z)
     refine oM (Ar rfl Af rfl rfl af) rfl ?_;rw[HQ.out];refine⟨_,rfl,Y.grownR Z (lrf _),Q,H,J,I,none,0,0,rfl,?_,?_,?_⟩
     · show Hid (decide ((mkRat z 1).num<0)=Q);rw[K.out.1];exact a2
     · show Wd w9 H J I (mkRat z 1).num.natAbs;rw[K.out.1];exact a0.kept C (AC _ _ _ _ _ _ _ _) Z
     · show Wd w9 none 0 0 (AN (mkRat z 1)).natAbs;rw[AA.2 K.out.2];exact Wd.nil _
   · have b1:a.isEmpty=false:=by cases a with | nil=>exact absurd rfl hd | cons _ _=>rfl
     go_wp2_with fail
     refine(aO w4).out.mono ?_;rintro e w6 ⟨s6,x,A,y,rfl,B,ad,ao⟩;have aP:s6=false:=by rw[<-ad.out];exact pb (by omega)
     subst aP;have aL:(Ab false x A y).toArray=#[.bool false,.slice x A y]:=rfl;have E:=g.ext B;have ak:=C.ext B;have M:=Y.trans B;have O:=a0.ext B;clear g C Y a0 x0 x1 c2 aj
     go_upto_region 10 with(refine C5 rfl rfl (Ab false x A y) (Ah Q H J I false x A y) (by kernel_rfl) rfl rfl rfl E (by simp[Ah,Ab]) (Ad _ _ _ _) rfl ?_;intro w7 i m)
     have l:=M.grownR m (by omega);have al:=ak.kept m (by simp;omega);have p:=O.kept E (AC _ _ _ _ _ _ _ _) m;have t:=ao.kept E (AC _ _ _ _ _ _ _ _) m;clear E ak M O ao m aL;have x0:=i.c 0 rfl;have x1:=i.c 1 rfl;have x2:=i.c 2 rfl;have x3:=i.c 3 rfl;have hg:=qh (Ez (hT.ext l) ⟨Q,H,J,I,rfl,a2,p⟩ ⟨false,x,A,y,rfl,ad,t⟩ (by rw[aH.out];exact Aj aS.out (by omega)) (Aj aT.out (by omega)));rw[pe]at hg
     go_wp2_with fail
     refine hg.out.mono ?_;rintro e w8 ⟨s8,a8,n8,c8,rfl,ag,aG,ap⟩;have aK:=qh (Cw (w:=w8) ⟨s8,a8,n8,c8,rfl,aG,ap⟩ rfl);have b5:(Ab s8 a8 n8 c8).toArray=#[.bool s8,.slice a8 n8 c8]:=rfl
     go_wp2_with fail
     refine aK.out.mono ?_;rintro e w9 ⟨rfl,ah⟩;have b:=ag.trans ah;have G:=i.ext b;have D:=al.ext b;have N:=l.trans b;have aD:=p.ext b;have aE:=t.ext b;clear i al l p t x0 x1 x2 x3 b ag ah ap;have ac:=qh (aU.out hd);by_cases h1:z.natAbs.gcd (W.decV a)=1
     · have HQ:Hid (o=some (mkRat z (W.decV a))):=qh (by rw[HO.out.2,pf hd,pq h1]);have K:=qh (Pl.rat_eq_mk (q:=mkRat z (W.decV a)) (n:=z) (d:=W.decV a) ac.out.1 h1 rfl);rw[h1];have x0:=G.c 0 rfl;have x1:=G.c 1 rfl;have x2:=G.c 2 rfl;have x3:=G.c 3 rfl;have aM:(Ah Q H J I false x A y).toArray=#[.bool Q,.slice H J I,.bool false,.slice x A y]:=rfl
       go_wp2_with(refine Aa (vs:=Ah Q H J I false x A y) rfl rfl rfl rfl rfl Af D rfl (Ag _ _ _ _ _ _ _ _) ?_;intro a1 k f)
       refine oM (Ar rfl Af rfl rfl k) rfl ?_;rw[HQ.out];refine⟨_,rfl,N.grownR f (lrf _),Q,H,J,I,x,A,y,rfl,?_,?_,?_⟩
       · show Hid (decide ((mkRat z (W.decV a)).num<0)=Q);rw[K.out.1];exact a2
       · show Wd a1 H J I (mkRat z (W.decV a)).num.natAbs;rw[K.out.1];exact aD.kept D (AC _ _ _ _ _ _ _ _) f
       · show Wd a1 x A y (AN (mkRat z (W.decV a))).natAbs;rw[C0 (by rw[K.out.2];exact ac.out.2),K.out.2];exact aE.kept D (AC _ _ _ _ _ _ _ _) f
     · have HQ:Hid (o=none):=qh (by rw[HO.out.2,pf hd,pf h1]);have aC:decide (((z.natAbs.gcd (W.decV a):Nat):Int)=1)=false:=pb (by omega);rw[aC];clear h1
       go_wp2_with(refine Aa (vs:=Ah false none 0 0 false none 0 0) rfl rfl rfl rfl rfl Af D rfl (Ag _ _ _ _ _ _ _ _) ?_;intro a1 k f)
       refine oM (Ar rfl Af rfl rfl k) rfl ?_;rw[HQ.out];exact⟨_,rfl,N.grownR f (lrf _),Ee _⟩
theorem K8(hp:xs.take k=ys.take k)(h1:k<xs.length)(h2:k<ys.length)(he:(xs.getD k 0 != ys.getD k 0)=false):xs.take (k+1)=ys.take (k+1):=by
 simp[h1,h2]at he;rw[oW h1,oW h2,hp,he]
theorem Ni(he:(xs.getD k 0 != ys.getD k 0)=true):xs≠ys:=by
 rintro rfl;simp at he
theorem QZ(g:SlI w a n c xs)(j:SlI w b m d ys) :
 Calls prog 26 #[.slice a n c,.slice b m d] w fun e F=>e = .returned (.bool (decide (xs=ys)))/\Qt w F:=by
 have L:=g.le;have E:=j.le;by_cases t:n=m
 · have x:((n:Int) != (m:Int))=false:=by simp[t]
   have y:=oK t;clear t
   go_enter func26,ntmps26
   go_wp2
   go_loopw[5] (fun i wr=>∃ k:Nat,k<=n/\i = .int .i64 k/\Qt w wr/\xs.take k=ys.take k) (fun i _=>n-(intOf i).toNat)
   case atStart=>exact⟨0,oY _,rfl,Qt.refl _,rfl⟩
   case round =>
    obtain⟨k,K,rfl,l,hp⟩:=hrel;have z:=oK hp;clear hp;have g:=g.ext l.ext;have j:=j.ext l.ext;by_cases q:k<n
    · have f:k<m:=by have:=y.out;omega
      obtain⟨G,M,rfl,o⟩:=g.at q;obtain⟨H,N,rfl,p⟩:=j.at f;have I:=o k q;have J:=p k f;clear o p;generalize r:xs.getD k 0=C at *
      generalize s:ys.getD k 0=D at *
      have A:=oK r;have B:=oK s;clear r s;go_wp2
      go_quiet (fail)
      by_cases he:(C != D)=true
      · go_wp2;go_ret;have:xs≠ys:=Ni (k:=k) (by rw[A.out,B.out];exact he);exact⟨by simp[this],l.drewN _⟩
      · have v:(C != D)=false:=by simpa using he
        go_wp2;go_roundw
        case rel=>exact⟨k+1,by omega,by go_num,l.drewN _,K8 z.out (by have:=g.len;omega) (by have:=j.len;omega) (by rw[A.out,B.out];exact v)⟩
        case measure=>simp[intOf];omega
    · go_wp2;go_ret;refine⟨?_,l⟩;have h1:=z.out;have h2:=y.out;rw[oL (by have:=g.len;omega),oL (by have:=j.len;omega)]at h1;simp[h1]
 · have x:((n:Int) != (m:Int))=true:=by simp;omega
   go_enter func26,ntmps26
   go_wp2;go_ret;refine⟨?_,Qt.refl _⟩;have:xs≠ys:=by rintro rfl;exact t (g.len.symm.trans j.len)
   simp[this]
def CJ:Int->List Int->Int
 | s,[]=>s
 | s,x :: t=>if x<0\/24-s<x then -1 else CJ (s+x) t
def Dv(xs:List Int):Int:=if 6<xs.length then -1 else CJ 0 xs
theorem PL{s:Int}(b:k<xs.length)(h:CJ 0 xs=CJ s (xs.drop k))(a:xs.getD k 0<0\/24-s<xs.getD k 0):CJ 0 xs = -1:=by
 rw[h,ig b];simp only[gqq,oN b,pg]at a;simp only[CJ];rw[pq a]
theorem Nj{s:Int}(b:k<xs.length)(h:CJ 0 xs=CJ s (xs.drop k))(a:¬ (xs.getD k 0<0\/24-s<xs.getD k 0)):CJ 0 xs=CJ (s+xs.getD k 0) (xs.drop (k+1)):=by
 rw[h,ig b];simp only[gqq,oN b,pg]at a |-;simp only[CJ];rw[pf a]
theorem Ia(l:SlI w a n c xs) :
 Calls prog 94 #[.slice a n c] w fun e D=>e = .returned (.int .i64 (Dv xs))/\w=D:=by
 have g:=oK l.len;have x:=l.le;by_cases h6:6<(n:Int)
 · have d:Hid (Dv xs = -1):=by
    show Dv xs = -1;unfold Dv;rw[pq (by rw[g.out];omega)]
   go_enter func94,ntmps94
   go_wp2;go_ret;exact⟨Dj d.out,rfl⟩
 · have d:Hid (Dv xs=CJ 0 xs):=by
    show Dv xs=_;unfold Dv;rw[pf (by rw[g.out];omega)]
   go_enter func94,ntmps94
   go_wp2
   go_loop[3,11] (fun v i=>∃ (s:Int) (k:Nat),v = .int .i64 s/\i = .int .i64 k/\k<=n/\0<=s/\s<=24/\Hid (CJ 0 xs=CJ s (xs.drop k))) (fun _ i=>n-(intOf i).toNat)
   case atStart=>exact⟨0,0,rfl,rfl,oY _,by omega,by omega,oK rfl⟩
   case round =>
    obtain⟨s,k,rfl,rfl,G,z,A,j⟩:=hrel;by_cases b:k<n
    · obtain⟨E,I,rfl,p⟩:=l.at b;have F:=p k b;have f:k<xs.length:=by rw[g.out];exact b
      have o:=oK (PL f j.out);have r:=oK (Nj f j.out);generalize xs.getD k 0=y at *
      clear p;by_cases C:y<0
      · go_wp2;go_ret;exact⟨Dj (by rw[d.out,o.out (Or.inl C)]),rfl⟩
      · have H:IntKind.i64.wrap (24-s)=24-s:=oP _ (by omega);by_cases m:24-s<y
        · go_wp2;go_ret;exact⟨Dj (by rw[d.out,o.out (Or.inr m)]),rfl⟩
        · have B:IntKind.i64.wrap (s+y)=s+y:=oP _ (by omega);go_wp2;go_round
          case rel=>exact⟨s+y,k+1,by go_num,by go_num,by omega,by omega,by omega,oK (r.out (by omega))⟩
          case measure=>simp[intOf];omega
    · have t:xs.drop k=[]:=gZ (by have:=g.out;omega);have q:Hid (Dv xs=s):=by
       show Dv xs=s;rw[d.out,j.out,t];rfl
      go_wp2;go_ret;exact⟨Dj q.out,rfl⟩
def A4(xs:List Int):Bool:=decide (0<=Dv xs)
theorem EF(b:SlI w a n c xs) :
 Calls prog 68 #[.slice a n c] w fun e d=>e = .returned (.bool (A4 xs))/\w=d:=by
 go_enter func68,ntmps68
 go_wp2_with fail
 refine(Ia b).mono ?_;rintro e f ⟨rfl,rfl⟩;go_wp2;go_ret;exact⟨rfl,rfl⟩
theorem PM{x y:Int}:Calls prog 207 #[.int .i64 x,.int .i64 y] w fun e b=>e = .returned (.int .i64 (Pl.cmpI x y))/\b=w:=by
 rcases Int.lt_trichotomy x y with h|h|h
 · have a:Hid (Pl.cmpI x y = -1):=oK (by unfold Pl.cmpI;rw[pq h])
   go_enter func207,ntmps207
   go_wp2;go_ret;exact⟨by rw[a.out];rfl,rfl⟩
 · subst h;have a:Hid (Pl.cmpI x x=0):=oK (Pl.cmpI_zero.2 rfl)
   go_enter func207,ntmps207
   go_wp2;go_ret;exact⟨by rw[a.out];rfl,rfl⟩
 · have a:Hid (Pl.cmpI x y=1):=oK (by unfold Pl.cmpI;rw[pf (by omega),pq h])
   go_enter func207,ntmps207
   go_wp2;go_ret;exact⟨by rw[a.out];rfl,rfl⟩
theorem Fd(a:k<xs.length):(xs.take (k+1)).sum=(xs.take k).sum+xs.getD k 0:=by
 have e:xs.getD k 0=xs[k]:=by simp[a]
 rw[oW a,e,List.sum_append];simp only[lO,List.sum_nil,Int.add_zero]
theorem GG{xs:List Int}{B:Int}(h:∀ x∈xs,-B<=x/\x<=B)(a:0<=B):∀ k,k<=xs.length -> -(B*k)<=(xs.take k).sum/\(xs.take k).sum<=B*k
 | 0,_=>by simp
 | k+1,hk=>by
  have ih:=GG h a k (by omega);have h1:=h (xs.getD k 0) (by simp[show k<xs.length by omega]);rw[Fd (by omega)];have e:B*((k+1:Nat):Int)=B*k+B:=by rw[gK,Int.mul_add];simp
  rw[e];omega
def EG(xs ys:List Int)(k:Nat):Int:=Pl.ordR (xs.take k).reverse (ys.take k).reverse
theorem K9(xs ys:List Int):EG xs ys 0=0:=by simp[EG,Pl.ordR]
theorem La(a:k<xs.length)(b:k<ys.length):EG xs ys (k+1)=if xs.getD k 0=ys.getD k 0 then EG xs ys k else Pl.cmpI (ys.getD k 0) (xs.getD k 0):=by
 have c:xs.getD k 0=xs[k]:=by simp[a]
 have d:ys.getD k 0=ys[k]:=by simp[b]
 unfold EG;rw[oW a,oW b,c,d,List.reverse_concat,List.reverse_concat];rfl
theorem J2(K:SlI w a n c xs)(L:SlI w b n d ys)(hn:n<=12)(Q:∀ x∈xs,-1099511627776<=x/\x<=1099511627776)(v:∀ x∈ys,-1099511627776<=x/\x<=1099511627776) :
 Calls prog 145 #[.slice a n c,.slice b n d] w fun e w'=>e = .returned (.int .i64 (Pl.ordE xs ys))/\Qt w w':=by
 have T:=oK (GG Q (by omega));have U:=oK (GG v (by omega));have Y:=K.len;have Z:=L.len
 go_enter func145,ntmps145
 go_wp2
 go_loop[5,6,12] (fun V W s=>∃ (k:Nat) (p q:Int),V = .int .i64 p/\W = .int .i64 q/\s = .int .i64 k/\k<=n/\Hid ((xs.take k).sum=p/\(ys.take k).sum=q)) (fun _ _ s=>n-(intOf s).toNat)
 case atStart=>exact⟨0,0,0,rfl,rfl,rfl,oY _,oK ⟨rfl,rfl⟩⟩
 case round =>
  obtain⟨k,p,q,rfl,rfl,rfl,hk,o⟩:=hrel;have O:=T.out k (by omega);have P:=U.out k (by omega);rw[o.out.1]at O;rw[o.out.2]at P;by_cases i:k<n
  · obtain⟨N,C,rfl,z⟩:=K.at i;obtain⟨t,l,rfl,f⟩:=L.at i;have R:=z k i;have S:=f k i;have m1:=Q (xs.getD k 0) (by simp[show k<xs.length by omega]);have m2:=v (ys.getD k 0) (by simp[show k<ys.length by omega]);have G:Hid ((xs.take (k+1)).sum=p+xs.getD k 0/\(ys.take (k+1)).sum=q+ys.getD k 0):=oK ⟨by rw[Fd (by omega),o.out.1],by rw[Fd (by omega),o.out.2]⟩;clear z f;generalize xs.getD k 0=x at *
    generalize ys.getD k 0=y at *
    have w1:IntKind.i64.wrap (p+x)=p+x:=oP _ (by omega);have w2:IntKind.i64.wrap (q+y)=q+y:=oP _ (by omega);go_wp2;go_round
    case rel=>exact⟨k+1,p+x,q+y,by first | rfl | go_num,by first | rfl | go_num,by go_num,by omega,G⟩
    case measure=>simp[intOf];omega
  · have I:k=n:=by omega
    subst I
    have D:Hid (Pl.ordE xs ys=if p=q then EG xs ys k else Pl.cmpI p q):=oK (by
     have h1:=o.out.1;have h2:=o.out.2;unfold Pl.ordE EG;rw[oL (by omega)]at h1 h2 |-;rw[oL (by omega)]
     rw[h1,h2])
    by_cases A:p=q
    · subst A;have g:Hid (Pl.ordE xs ys=EG xs ys k):=oK (by rw[D.out,pq rfl]);clear O P o D;go_wp2
      go_loopw[9] (fun s wr=>∃ m:Nat,s = .int .i64 ((m:Int)-1)/\m<=k/\Qt w wr/\Hid (EG xs ys k=EG xs ys m)) (fun s _=>(intOf s+1).toNat)
      case atStart=>exact⟨k,by first | rfl | go_num,lrf _,Qt.refl _,oK rfl⟩
      case round =>
       obtain⟨m,rfl,hm,B,E⟩:=hrel;by_cases h0:m=0
       · subst h0;have H:Hid (Pl.ordE xs ys=0):=oK (by rw[g.out,E.out,K9]);go_wp2;go_ret;exact⟨by rw[H.out];rfl,B⟩
       · obtain⟨j,rfl⟩:∃ j,m=j+1:=⟨m-1,by omega⟩;have X:(((j+1:Nat):Int)-1)=(j:Int):=by omega
         rw[X];obtain⟨N,C,rfl,z⟩:=(K.ext B.ext).at (k:=j) (by omega);obtain⟨t,l,rfl,f⟩:=(L.ext B.ext).at (k:=j) (by omega);have R:=z j (by omega);have S:=f j (by omega);have M:=oK (La (xs:=xs) (ys:=ys) (k:=j) (by omega) (by omega));clear z f;generalize xs.getD j 0=x at *
         generalize ys.getD j 0=y at *
         by_cases r:x=y
         · have F:Hid (EG xs ys k=EG xs ys j):=oK (by rw[E.out,M.out,pq r]);subst r;go_wp2
           go_quiet (fail)
           go_wp2;go_roundw
           case rel=>exact⟨j,by first | rfl | go_num,by omega,B.drewN _,F⟩
           case measure=>simp[intOf]
         · have H:Hid (Pl.ordE xs ys=Pl.cmpI y x):=oK (by rw[g.out,E.out,M.out,pf r]);go_wp2
           go_quiet (fail)
           have d1:(wr.drewN nq).cell? ⟨N,C+j,none⟩=some (.int .i64 x):=R;have d2:(wr.drewN nq).cell? ⟨t,l+j,none⟩=some (.int .i64 y):=S;have J:=B.drewN nq;generalize wr.drewN nq=w2 at *
           go_wp2
           go_quiet (exact Calls.quiet_of_same PM)
           go_wp2;go_ret;exact⟨by rw[H.out];rfl,J.drewN _⟩
    · have g:Hid (Pl.ordE xs ys=Pl.cmpI p q):=oK (by rw[D.out,pf A])
      go_wp2_with fail
      refine PM.mono ?_;rintro e w1 ⟨rfl,rfl⟩;go_wp2;go_ret;exact⟨by rw[g.out];rfl,Qt.refl _⟩
def BA(l:List Int):List Int:=l ++ List.replicate (6-l.length) 0
theorem Dw{l:List Int}(h:l.length<=6):(BA l).length=6:=by simp[BA];omega
theorem Lb(l:List Int):(BA l).take l.length=l:=by simp[BA]
def AQ(vars:Int)(t:List UInt8×List Int):Option Pl.Tm :=
 match AJ t.1 with
 | none=>none
 | some q=>if q≠0/\(t.2.length:Int)=vars/\∀ e∈t.2,0<=e/\e<=1048576 then some (BA t.2,q)else none
def Ws(w:World)(o:Option Pl.Tm)(e:Ending)(w':World):Prop:=∃ row,e = .returned (.tuple #[.agg row.toArray,.bool o.isSome])/\Ext w w'/\BV w' row (o.getD ([0,0,0,0,0,0],0))
theorem Ef(w:World):BV w (Ap [0,0,0,0,0,0] false none 0 0 none 0 0) ([0,0,0,0,0,0],0):=⟨false,none,0,0,none,0,0,rfl,rfl,Ee w⟩
theorem Bo{s:Bool} :∀ v∈Ap e s a n c b m d,∀ i,v ≠ .int .u64 i:=by
 intro v f i;rcases il.1 f with f|f
 · obtain⟨x,_,rfl⟩:=gT.1 f;simp
 · exact AC _ _ _ _ _ _ _ _ v f i
theorem B8(e:List Int)(s:Bool)(a b:Option Addr)(n c m d:Nat):(Ap e s a n c b m d).length=e.length+4:=by simp[Ap,Ah,Ab]
theorem Eg:BM prog 3 (.int .i64 0) 8:=by unfold BM;kernel_rfl
def ze:List Int:=[0,0,0,0,0,0]
theorem Ko(hT:AV w)(hs:s.size<=570)(hx:SlI w a n c xs)(hv:vars<=6) :
 Calls prog 168 #[.int .i64 vars,.agg #[.string s,.slice a n c]] w (Ws w (AQ vars (Al s,xs))):=by
 have aj:=fun(wx:World) (hE:Ext w wx)=>qh (J1 (hT.ext hE) hs);have aT:(Ap ze false none 0 0 none 0 0).toArray=#[.int .i64 0,.int .i64 0,.int .i64 0,.int .i64 0,.int .i64 0,.int .i64 0,.bool false,.slice none 0 0,.bool false,.slice none 0 0]:=rfl;have I:=hx.len;obtain⟨o,ho⟩:∃ o,AJ (Al s)=o:=⟨_,rfl⟩;obtain⟨r,hr⟩:∃ r,AQ vars (Al s,xs)=r:=⟨_,rfl⟩;rw[hr];rw[ho]at aj;unfold AQ at hr;simp only[ho]at hr;clear ho;have J:=qh hr;clear hr
 go_enter func168,ntmps168
 go_upto_region 1 with(fail)
 refine Ch ?_;intro w0 Z W ab aM;have hR:Arr w0 (w.heap.size+1) 92 (Ap ze false none 0 0 none 0 0):=ab;have t0:=W.c 0 rfl;have t1:=W.c 1 rfl;clear W ab aM
 go_wp2_with fail
 refine(aj w0 Z).out.mono ?_;rintro e w1 ⟨_,rfl,a0,s1,f,t,d,g,p,j,rfl,U,ak,ap⟩;have a8:(Ah s1 f t d false g p j).toArray=#[.bool s1,.slice f t d,.bool false,.slice g p j]:=rfl;have hY:=Arr.new w1 85 (Ah false none 0 0 false none 0 0)
 go_upto_region 2 with(refine Aa (vs:=Ah s1 f t d false g p j) rfl rfl rfl rfl rfl Af hY rfl (Ag _ _ _ _ _ _ _ _) ?_;intro w2 C ag)
 have L:Ext w1 w2:=((Ext.refl w1).alloc _).grownR ag (lrf _);have y:=a0.trans L;have a3:=hR.ext y;have u0:=y.cell t0;have u1:=y.cell t1;have a2:=Z.trans y;have hX:w.heap.size+1<w1.heap.size:=(hR.ext a0).lt;have P:=ak.ext L;have Q:=ap.ext L;clear hR t0 t1 Z a0 L y ak ap hY ag a8;generalize w1.heap.size=X at *
 cases o with
 | none =>
  simp only at J
  go_wp2_with(refine Aa (vs:=Ap ze false none 0 0 none 0 0) rfl rfl rfl rfl rfl Au a3 rfl AY ?_;intro w9 l m)
  refine oM (Ar rfl Au rfl rfl l) rfl ?_;rw[<-J.out];exact⟨_,rfl,a2.grownR m (by omega),Ef _⟩
 | some q =>
  simp only[pg]at J U P Q;have x0:=C.c 0 rfl;have x1:=C.c 1 rfl;have x2:=C.c 2 rfl;have x3:=C.c 3 rfl;have ah:=qh (FV (w:=w2) (v := .agg #[.bool s1,.slice f t d,.bool false,.slice g p j]) (q:=q) ⟨Ah s1 f t d false g p j,rfl,s1,f,t,d,g,p,j,rfl,U,P,Q⟩ rfl)
  go_wp2_with fail
  refine ah.out.mono ?_;rintro e w3 ⟨rfl,z⟩;have B:=a3.ext z;have a5:=C.ext z;have aO:=z.cell u0;have av:=z.cell u1;have b:=a2.trans z;have al:=P.ext z;have aq:=Q.ext z;clear a3 C u0 u1 a2 P Q x0 x1 x2 x3 z ah;by_cases F:q=0
  · rw[gX F];have R:Hid (none=r):=qh (by rw[<-J.out,pf (fun h=>h.1 F)]);clear F J
    go_wp2_with(refine Aa (vs:=Ap ze false none 0 0 none 0 0) rfl rfl rfl rfl rfl Au B rfl AY ?_;intro w9 l m)
    refine oM (Ar rfl Au rfl rfl l) rfl ?_;rw[<-R.out];exact⟨_,rfl,b.grownR m (by omega),Ef _⟩
  · rw[pb F];have aB:=qh F;clear F;by_cases a9:(n:Int)=vars
    · have aa:=hx.ext b;go_wp2
      go_loop[34] (fun iv=>∃ k:Nat,iv = .int .i64 k/\k<=n/\Hid (∀ i,i<k->0<=xs.getD i 0/\xs.getD i 0<=1048576)) (fun iv=>n-(intOf iv).toNat)
      case atStart=>exact⟨0,rfl,oY _,qh (fun i hi=>absurd hi (by omega))⟩
      case round =>
       obtain⟨k,rfl,hk,HK⟩:=hrel;by_cases ai:k<n
       · obtain⟨b',aU,rfl,hc⟩:=aa.at ai;have d:=hc k ai;have HM:Hid (xs.getD k 0∈xs):=qh (by simp[show k<xs.length by omega]);clear hc;generalize ao:xs.getD k 0=x at *
         have aC:=qh ao;clear ao;by_cases N:0<=x/\x<=1048576
         · obtain⟨h1,h2⟩:=N;go_wp2;go_round
           case rel =>
            refine⟨k+1,by go_num,by omega,qh fun i hi => ?_⟩;by_cases aF:i=k
            · subst aF;rw[aC.out];exact⟨h1,h2⟩
            · exact HK.out i (by omega)
           case measure=>simp[intOf];omega
         · have R:Hid (none=r):=qh (by rw[<-J.out,pf (fun h=>N (h.2.2 x HM.out))]);by_cases aQ:x<0
           · clear N
             go_wp2_with(refine Aa (vs:=Ap ze false none 0 0 none 0 0) rfl rfl rfl rfl rfl Au B rfl AY ?_;intro w9 l m)
             refine oM (Ar rfl Au rfl rfl l) rfl ?_;rw[<-R.out];exact⟨_,rfl,b.grownR m (by omega),Ef _⟩
           · have aP:1048576<x:=by omega
             clear N
             go_wp2_with(refine Aa (vs:=Ap ze false none 0 0 none 0 0) rfl rfl rfl rfl rfl Au B rfl AY ?_;intro w9 l m)
             refine oM (Ar rfl Au rfl rfl l) rfl ?_;rw[<-R.out];exact⟨_,rfl,b.grownR m (by omega),Ef _⟩
       · have aH:k=n:=by omega
         subst aH
         have R:Hid (some (BA xs,q)=r):=qh (by
          have aw:∀ e∈xs,0<=e/\e<=1048576:=fun e he => ?_
          · rw[<-J.out,pq ⟨aB.out,by rw[I];exact a9,aw⟩]
          obtain⟨i,hi,rfl⟩:=jC.1 he;have:=HK.out i (by omega);rw[gqq,oN hi]at this
          exact this)
         clear J HK
         go_upto_region 11 with(fail)
         refine AM ?_;intro w4 A D aN;have D:Arr w4 w3.heap.size 92 (Ap ze false none 0 0 none 0 0):=D;have ac:=B.ext A;have H:=a5.ext A;have u1:=A.cell av;have S:=b.trans A;have am:=al.ext A;have ar:=aq.ext A;have ax:=aa.ext A;have aS:X<w3.heap.size:=a5.lt;clear aN B a5 av aO b al aq aa A;generalize w3.heap.size=Y at *
         have x0:=H.c 0 rfl;have x1:=H.c 1 rfl;have x2:=H.c 2 rfl;have x3:=H.c 3 rfl;have a8:(Ah s1 f t d false g p j).toArray=#[.bool s1,.slice f t d,.bool false,.slice g p j]:=rfl
         go_upto_region 12 with(refine C5 rfl rfl (Ah s1 f t d false g p j) (Ap ze s1 f t d g p j) (by kernel_rfl) rfl rfl rfl D (by simp[Ap,Ah,Ab,ze]) (Ag _ _ _ _ _ _ _ _) rfl ?_;intro K ae E)
         have G:=S.grownR E (by omega);have ad:=ac.kept E (by simp;omega);have an:=am.kept D Bo E;have au:=ar.kept D Bo E;have hu:K.cell? ⟨w.heap.size,1,none⟩=some (.slice a k c):=by
          rw[jT (w:=w4) (E.block _ (iP w4 _ u1) (by simp;omega)),u1]
         have ay:=hx.ext G;clear am ar ac S E u1 x0 x1 x2 x3 H D a8 ax
         go_still_tail 4,(by kernel_rfl)
         change wpList _ _ _ _ _ K.drew;have aE:Arr K.drew (w.heap.size+1) 92 (Ap ze false none 0 0 none 0 0):=ad;have a6:Arr K.drew Y 92 (Ap ze s1 f t d g p j):=ae;have T:Ext w K.drew:=G.drew;have aI:Wd K.drew f t d q.num.natAbs:=an.ext (Ext.refl K).drew;have aK:Wd K.drew g p j (AN q).natAbs:=au.ext (Ext.refl K).drew;clear ad ae G an au hu ay;generalize K.drew=w6 at *
         have az:=hx.ext T;have aG:k<=6:=by omega
         have HZ:Hid ((Ap ze s1 f t d g p j).take 0 ++ xs.map (Value.int .i64) ++ (Ap ze s1 f t d g p j).drop (0+k)=Ap (BA xs) s1 f t d g p j):=by
          show _=_;have hz:ze=List.replicate 6 0:=rfl;rw[jK,iA,gL];unfold Ap BA;rw[hz,lP,im,lP,mT,List.drop_replicate,I,List.length_replicate,show k-6=0 by omega,iw,ia]
         have O:(BA xs).length=6:=Dw (by omega);have V:Agg prog 92 (Ap (BA xs) s1 f t d g p j).length:=by rw[B8,O];exact Au
         have HL:Hid ((Ap ze false none 0 0 none 0 0).length=(Ap (BA xs) s1 f t d g p j).length):=qh (by rw[B8,B8,O];rfl);have aA:=qh O;have aR:=qh I;clear O I a9
         go_wp2_with(first
          | (refine Ks (sT:=24) rfl rfl underlying24 Eg rfl rfl a6 az aG (by rw[B8];simp[ze];omega) (EN _) ?_;intro w7 af M;rw[HZ.out]at af;have a4:=aE.kept M (by simp;omega))
          | (refine EM rfl rfl V rfl af ?_)
          | (refine Aa rfl rfl rfl rfl rfl V a4 HL.out AY ?_;intro w8 aD a7))
         have aJ:=aI.kept a6 Bo M;have aL:=aK.kept a6 Bo M;refine oM (Ar rfl V rfl rfl aD) rfl ?_;rw[<-R.out];exact⟨_,rfl,(T.grownR M (by omega)).grownR a7 (by omega),s1,f,t,d,g,p,j,rfl,aA.out,s1,f,t,d,g,p,j,rfl,U,aJ.kept a4 Bo a7,aL.kept a4 Bo a7⟩
    · have R:Hid (none=r):=qh (by rw[<-J.out,pf (fun h=>a9 (by rw[<-h.2.1,I]))]);clear J
      go_wp2_with(refine Aa (vs:=Ap ze false none 0 0 none 0 0) rfl rfl rfl rfl rfl Au B rfl AY ?_;intro w9 l m)
      refine oM (Ar rfl Au rfl rfl l) rfl ?_;rw[<-R.out];exact⟨_,rfl,b.grownR m (by omega),Ef _⟩
end Go.Proofs.YtlbmnokpiilfpaaGreatDoor
