/- Part Pq15. -/
import Derived.Test.YtlbmnokpiilfpaaGreatDoorPq14

set_option linter.all false
set_option maxRecDepth 100000
set_option maxHeartbeats 100000000
namespace Go.Proofs.YtlbmnokpiilfpaaGreatDoor
open Tryz Go Go.RowKit
def gZ:=@List.getElem?_append_left
def je:=@List.exists_cons_of_ne_nil
def jw:=@List.take_zero
def jD:=@ByteArray.toList_eq
def jF:=@List.getElem?_set_self
def kE:=@of_decide_eq_true
def kM:=@List.mem_flatten
def lE:=@List.flatten_cons
def mJ:=@List.foldl_append
def mX:=@cell_of_row
def nB:=@Rat.mkRat_self
def nF:=@List.tail_cons
def nU:=@List.drop_append
def oH:=@List.take_add_one
variable {f:Act} {ad:Addr} {ops:Array Oper} {neg:Bool} {s:ByteArray} {Q:Exit->Act->World->Prop} {news rows:List (List Value)} {e:List Int} {rest:List Oper} {den dt l num r:List UInt8} {L cs new vs zs:List Value} {base' bytes c cx d g k m n:Nat} {o:Oper} {x y:Operand} {a b:Option Addr} {q:Rat} {t ty:TypeId} {v:Value} {w w':World}
theorem DX{k:Nat}:∀ (a:List (List Value)),(∀ r∈a,r.length=k)->∀ i j,j<k->a.flatten[i*k+j]?=(a[i]?).bind (·[j]?)
 | [],_,i,j,_=>by simp
 | r :: rest,h,0,j,hj=>by
  have hr:r.length=k:=h r (by simp);simp only[jg,iz,lE,kl,kK];rw[gZ (by omega)]
 | r :: rest,h,i+1,j,hj=>by
  have hr:r.length=k:=h r (by simp);have c:=DX rest (fun x b=>h x (by simp[b])) i j hj;simp only[lE,lO];have e:(i+1)*k+j=k+(i*k+j):=by rw[iW];omega
  rw[e,iu (by omega),hr,lM,c]
theorem BM{k:Nat}:∀ (a:List (List Value)),(∀ r∈a,r.length=k)->a.flatten.length=a.length*k
 | [],_=>by simp
 | r :: rest,h=>by
  have hr:r.length=k:=h r (by simp);have c:=BM rest (fun x b=>h x (by simp[b]));simp only[lE,iD,j8,c,hr,iW];omega
theorem N8{k:Nat}:∀ (a:List (List Value)),(∀ r∈a,r.length=k)->∀ i (vs:List Value),vs.length=k->i<a.length ->
 a.flatten.take (i*k) ++ vs ++ a.flatten.drop (i*k+k)=(a.set i vs).flatten
 | [],_,i,vs,_,hi=>by simp at hi
 | r :: rest,h,0,vs,hv,_=>by
  have hr:r.length=k:=h r (by simp);simp only[jg,jw,jo,iz,lE,lV];rw[nU,hr,ju,ji,List.drop_eq_nil_of_le (by omega),jo]
 | r :: rest,h,i+1,vs,hv,hi=>by
  have hr:r.length=k:=h r (by simp);have f:=N8 rest (fun x d=>h x (by simp[d])) i vs hv (by simpa using hi);have e:(i+1)*k=k+i*k:=by rw[iW];omega
  simp only[lE,lu,e];rw[List.take_append,nU,gG (by omega),List.drop_eq_nil_of_le (by omega),jo,hr];have b:k+i*k-k=i*k:=by omega
  have c:k+i*k+k-k=i*k+k:=by omega
  rw[b,c,<-f];simp
theorem N9{a N:Nat}(c:vs.length=k)(h1:a+k<=N)(h2:N<=L.length):(L.take a ++ vs ++ L.drop (a+k)).take N=(L.take N).take a ++ vs ++ (L.take N).drop (a+k):=by
 have b:(L.take a ++ vs).length=a+k:=by simp[c];omega
 rw[ox,jK (by omega),List.drop_take,List.take_append,gG (by omega),b]
theorem PP{a:Nat}(b:vs.length=k)(h:a+k<=L.length):(L.take a ++ vs ++ L.drop (a+k)).length=L.length:=by
 simp[b];omega
structure SlK(w:World)(k:Nat)(a:Option Addr)(n c:Nat)(rows:List (List Value)):Prop where
 len:rows.length=n
 cap:n<=c
 max:c<=maxLen
 wid:∀ r∈rows,r.length=k
 rd:0<n->∃ b off,a=some ⟨b,off,none⟩/\∀ i,i<n->∀ j,j<k->w.cell? ⟨b,off+i*k+j,none⟩=some ((rows.getD i []).getD j undef)
theorem SlK.ext(h:SlK w k a n c rows)(e:Ext w w'):SlK w' k a n c rows :=
 ⟨h.len,h.cap,h.max,h.wid,fun h0=>let ⟨b,off,ha,hc⟩:=h.rd h0;⟨b,off,ha,fun i d j f=>e.cell (hc i d j f)⟩⟩
theorem SlK.nil(w:World)(k:Nat):SlK w k none 0 0 []:=⟨rfl,lrf _,gO _,(fun _ h=>by cases h),fun h=>absurd h (by omega)⟩
theorem SlK.le(h:SlK w k a n c rows):n<=9223372036854775807:=by
 have h1:=h.cap;have h2:=h.max;unfold maxLen at h2;omega
theorem SlK.row(h:SlK w k a n c rows){i:Nat}(hi:i<n):(rows.getD i []).length=k:=by
 have b:i<rows.length:=by rw[h.len];exact hi
 refine h.wid _ ?_;rw[gqq,gD b];simp
def AR(w:World)(base:Nat)(e:TypeId)(k:Nat)(a:Option Addr)(n c:Nat)(rows:List (List Value)):Prop:=(∀ r∈rows,r.length=k)/\w.ownsRow base e k (.slice a n c) n rows.flatten
section
variable {w w':World} {base:Nat} {e:TypeId} {k:Nat} {a:Option Addr} {n c:Nat} {rows:List (List Value)}
theorem AR.ext(h:AR w base e k a n c rows)(x:Ext w w'):AR w' base e k a n c rows:=⟨h.1,NJ h.2 x⟩
theorem AR.nil(w:World)(base:Nat)(e:TypeId)(k:Nat):AR w base e k none 0 0 []:=⟨(fun _ h=>by cases h),World.ownsRow_nil w base e k⟩
theorem AR.mono(h:AR w base e k a n c rows)(i:base'<=base):AR w base' e k a n c rows:=by
 obtain⟨h0,h1,h2⟩:=h;refine⟨h0,h1,?_⟩;rcases h2 with h2|⟨g,b,d,f,j,r⟩
 · exact Or.inl h2
 · exact Or.inr ⟨g,b,d,f,by omega,r⟩
theorem AR.kept{row:Option Nat}(h:AR w base e k a n c rows)(f:w.grownBy w' row)(d:blk a=none\/blk a≠row):AR w' base e k a n c rows:=by
 refine⟨h.1,World.ownsRow.kept h.2 f ?_⟩;cases a with
 | none=>left;rfl
 | some b=>right;rcases d with h | h
           · simp[blk]at h
           · simpa[blk,Value.ownBlock]using h
theorem AR.lt(h:AR w base e k a n c rows){g:Nat}(d:blk a=some g):base<=g/\g<w.heap.size:=by
 refine World.ownsRow.lt h.2 g ?_;cases a with
 | none=>simp[blk]at d
 | some b=>simpa[blk,Value.ownBlock]using d
theorem AR.place(h:AR w base e k a n c rows)(l:0<n):∃ g,a=some ⟨g,0,none⟩/\base<=g/\g<w.heap.size:=by
 rcases h.2.2 with⟨_,h0⟩|⟨g,d,f,b,i,j,_⟩
 · omega
 · simp only[gW]at b;refine⟨g,b.1,i,?_⟩;rcases iH g w.heap.size with h|h
   · exact h
   · simp[jY h]at j
theorem AR.len(b:0<k)(h:AR w base e k a n c rows):rows.length=n:=by
 have h1:=h.2.1;rw[BM rows h.1]at h1;exact mf b h1
theorem AR.slk(v:0<k)(h:AR w base e k a n c rows):SlK w k a n c rows:=by
 have q:=h.len v;obtain⟨h0,h1,h2⟩:=h;rcases h2 with⟨f,A⟩|⟨g,r,d,f,z,s,m,x,B,y⟩
 · simp only[gW]at f;obtain⟨rfl,rfl,rfl⟩:=f;have:rows=[]:=gQ q;subst this;exact SlK.nil w k
 · simp only[gW,lI]at f;obtain⟨rfl,rfl⟩:=f;refine⟨q,m,x,h0,fun _=>⟨g,0,rfl,fun i t j p => ?_⟩⟩;have b:i<rows.length:=by omega
   have o:(rows[i]).length=k:=h0 _ (jl b);have h3:=DX rows h0 i j p;rw[gD b,kK,<-y,List.getElem?_take]at h3;have l:i*k+j<n*k:=by
    have:(i+1)*k<=n*k:=gH k t;rw[iW]at this;omega
   rw[gY l]at h3;rw[iz,mX w g _ d e (0,0) s];have h4:d[i*k+j]?=(rows[i])[j]?:=by rw[<-h3];simp
   rw[h4,gD (by omega)];simp[b,o,p]
end
section
variable {P:Program} {w:World}
theorem Vt{b a i:Nat}(s:Agg P ty k)(h:SlK w k (some ⟨b,a,none⟩) n c rows)(hi:i<n) :
 (Instr.loadAt ty (.pointer (some ⟨b,a+i*k,none⟩))).run P w = .ok (.agg (rows.getD i []).toArray) w:=by
 obtain⟨d,hu,A,f⟩:=s.parts;obtain⟨z,r,e,t⟩:=h.rd (by omega);simp only[gK,iV,jp]at e;obtain⟨rfl,rfl⟩:=e;have o:=h.row hi;have q:(loadCells ⟨b,a+i*k,none⟩ (rows.getD i []).length).run P w = .ok (rows.getD i []).toArray w:=by
  refine run_loadCells_list (P:=P) w _ (rows.getD i []) (fun j v p => ?_);have x:j<k:=by
   rcases iH j k with h|h
   · exact h
   · rw[ig (by omega)]at p;cases p
  have g:(⟨b,a+i*k,none⟩:Addr).add j=⟨b,a+i*k+j,none⟩:=by unfold Addr.add;split <;> simp_all
  rw[g,t i hi j x,gqq,p];rfl
 rw[o]at q;cases m:P.info? ty with
 | none=>simp[m]at f
 | some inf =>
  have y:inf.size=k:=by simpa[m]using f
  have l:(isAgg ty).run P w = .ok true w:=by
   cases d <;> simp_all [isAgg,j4 hu]
  simp[Instr.loadAt,Instr.sureAddr,loadVar,l,Go.sizeOf,typeInfo,m,y,q]
theorem Bg(e:o.guard=none)(l:o.op = .load ty x)
 {k:Nat} {b a n c i:Nat} {rows:List (List Value)} (j:Agg P ty k) (m:f.eval x = .pointer (some ⟨b,a+i*k,none⟩)) (h:SlK w k (some ⟨b,a,none⟩) n c rows) (hi:i<n)
 (g:wpList P ops Q rest (f.put o.dst (.agg (rows.getD i []).toArray)) w):wpList P ops Q (o :: rest) f w:=by
 refine jf e fun K d => ?_;unfold Oper.wp execOp;simp only[l,m,ij,Vt j h hi,gS,iF,Oper.upon];exact d _ _ g
theorem Vu{ty:TypeId}{k base:Nat}{e:TypeId}{g n c i:Nat}{rows:List (List Value)}{vs:List Value}(G:0<k)(C:Agg P ty k)(h:AR w base e k (some ⟨g,0,none⟩) n c rows)(hi:i<n)(j:vs.length=k)(h1:∀ v∈vs,v.oneCell'=true) :
 ∃ z,(Instr.storeAt ty (.pointer (some ⟨g,i*k,none⟩)) (.agg vs.toArray)).run P w = .ok () z/\AR z base e k (some ⟨g,0,none⟩) n c (rows.set i vs)/\w.grownBy z (some g):=by
 obtain⟨d,hu,K,f⟩:=C.parts;have o:=h.len G;obtain⟨h0,F,h2⟩:=h;rcases h2 with⟨t,_⟩|⟨J,B,b,t,D,A,p,H,q,I⟩
 · simp at t
 simp only[gW,gK,iV,jp,lI]at t;obtain⟨rfl,rfl⟩:=t;have x:i*k+k<=n*k:=by
  have:(i+1)*k<=n*k:=gH k hi;rw[iW]at this;omega
 have E:n*k<=c*k:=gH k p;have l:=run_storeCells_at (P:=P) g (i*k) e vs 0 b w A (by rw[j];omega) h1;rw[iO,j]at l;refine⟨w.setRow g (b.toList.take (i*k) ++ vs ++ b.toList.drop (i*k+k)).toArray,?_,⟨?_,?_⟩,BK w g _⟩
 · cases y:P.info? ty with
   | none=>simp[y]at f
   | some inf =>
    have q:inf.size=k:=by simpa[y]using f
    simp[Instr.storeAt,Instr.sureAddr,storeVar,Go.sizeOf,typeInfo,y,Value.cells,q,j,l]
 · intro r m;rcases j7 m with m|rfl
   · exact h0 r m
   · exact j
 · have s:=N8 rows h0 i vs j (by omega);refine⟨by rw[BM _ (fun r m=>by rcases j7 m with m | rfl;exact h0 r m;exact j)];simp[o],Or.inr ⟨g,c,(b.toList.take (i*k) ++ vs ++ b.toList.drop (i*k+k)).toArray,rfl,D,by simp[World.setRow,kS,A],p,H,?_,?_⟩⟩
   · have:=PP (L:=b.toList) (a:=i*k) j (by simp[q];omega);simpa[q]using this
   · rw[<-s,<-I];exact N9 j x (by simp[q];omega)
theorem Id(j:o.guard=none)(s:o.op = .store ty x y)
 {k base:Nat} {e:TypeId} {g n c i:Nat} {rows:List (List Value)} {vs:List Value} {va:Array Value} (q:0<k) (p:Agg P ty k) (t:f.eval x = .pointer (some ⟨g,i*k,none⟩)) (z:f.eval y = .agg va) (l:va=vs.toArray)
 (h:AR w base e k (some ⟨g,0,none⟩) n c rows) (hi:i<n) (r:vs.length=k) (h1:∀ v∈vs,v.oneCell'=true)
 (m:∀ b,AR b base e k (some ⟨g,0,none⟩) n c (rows.set i vs)->w.grownBy b (some g)->wpList P ops Q rest (f.put o.dst undef) b):wpList P ops Q (o :: rest) f w:=by
 subst l;obtain⟨b,a,h2,h3⟩:=Vu q p h hi r h1;refine jf j fun K d => ?_;unfold Oper.wp execOp;simp only[s,t,z,ij,a,gS,iF,Oper.upon];exact d _ _ (m _ h2 h3)
def BV(P:Program)(e:TypeId)(zs:List Value)(k bytes:Nat):Prop :=
 (P.info? e).map (fun i=>(i.zero,i.size,i.bytes))=some (some (.agg zs.toArray),k,bytes)/\zs.length=k/\0<k
theorem BV.parts{P:Program}{e:TypeId}(h:BV P e zs k bytes):∃ i,P.info? e=some i/\i.zero=some (.agg zs.toArray)/\i.size=k/\i.bytes=bytes:=by
 obtain⟨h,_,_⟩:=h;cases a:P.info? e with
 | none=>rw[a]at h;cases h
 | some i =>
  rw[a]at h;simp only[jJ,gK,kX]at h;exact⟨i,rfl,h.1,h.2.1,h.2.2⟩
theorem FD{e:TypeId}{base:Nat} 
 (U:P.underlying t=some (.slice e)) (f:BV P e zs k bytes) (v:AR w base e k a n c rows) (d:SlK w k (some ad) m cx news)
 (h1:∀ r∈news,∀ u∈r,u.oneCell'=true) (h63:n+m<=maxLen) (p:(n+m)*bytes<=140737488355328) (y:base<=w.heap.size) :
 ∃ E N A,(Builtin.append_ #[t,t] ty #[.slice a n c,.slice (some ad) m cx]).run P w = .ok (.slice E (n+m) N) A/\AR A base e k E (n+m) N (rows ++ news) /\
  w.grownBy A (blk a)/\(blk E=blk a\/blk E=some w.heap.size):=by
 obtain⟨i,T,V,z,G⟩:=f.parts;have I:=f.2.2;have M:(Value.agg zs.toArray).cells.size=k:=by simp[Value.cells,f.2.1]
 have s:(Value.slice a n c).ownBlock=blk a:=by cases a <;> rfl
 have q:∀ j u,news.flatten[j]?=some u->w.cell? (ad.add j)=some u:=by
  intro j u hu;have H:j<news.flatten.length:=by
   rcases iH j news.flatten.length with h|h
   · exact h
   · simp[ig h]at hu
  rw[BM news d.wid,d.len]at H;have J:0<m:=by rcases gX m with h | h;(rw[h,jg]at H;omega);exact h
  obtain⟨b,o,h,S⟩:=d.rd J;injection h with h;subst h;have B:j/k<m:=(jm I).2 H;have D:j%k<k:=io _ I;have C:j=j/k*k+j%k:=by rw[gV];exact(j6 j k).symm
  have h2:=S (j/k) B (j%k) D;have h3:=DX news d.wid (j/k) (j%k) D;rw[<-C,hu]at h3;have O:j/k<news.length:=by rw[d.len];exact B
  rw[gD O,kK]at h3;have h4:(news.getD (j/k) []).getD (j%k) undef=u:=by
   rw[gqq (l:=news),gD O,gP,gqq,<-h3];rfl
  rw[h4,jR,<-C]at h2;rw[<-h2];unfold Addr.add;by_cases h0:j=0 <;> simp[h0]
 obtain⟨W,A,x,h2,h3,_,h5⟩:=run_append_own_at (P:=P) w base t ty e i (.agg zs.toArray) k bytes U T V z G M I (.slice a n c) n rows.flatten v.2 ad m cx news.flatten (by rw[BM news d.wid,d.len]) q (by intro u hu;obtain⟨r,K,hu⟩:=kM.1 hu;exact h1 r K u hu) h63 p y;rw[<-List.flatten_append]at h2;have Q:∀ r∈rows ++ news,r.length=k:=fun r K=>(iw.1 K).elim (v.1 r) (d.wid r);rcases h2.2 with⟨L,h0⟩|⟨g,F,R,L,_⟩
 · subst L;refine⟨none,0,A,by rw[x,h0],⟨Q,?_⟩,by rw[<-s];exact h3,by rw[<-s];exact h5⟩;rw[h0]at h2 |-;exact h2
 · subst L;exact⟨_,F,A,x,⟨Q,h2⟩,by rw[<-s];exact h3,by rw[<-s];exact h5⟩
theorem Dn{s:Operand}(v:o.guard=none)
 (C:o.op = .call { callee := .builtin .append,args:=#[s,x],argTypes:=#[t,t] })
 {e:TypeId} {zs:List Value} {k bytes base:Nat} {a:Option Addr} {n c:Nat} {rows:List (List Value)} {z:Addr} {m A:Nat} {news:List (List Value)}
 (E:P.underlying t=some (.slice e)) (g:BV P e zs k bytes) (D:f.eval s = .slice a n c) (j:AR w base e k a n c rows) (F:f.eval x = .slice (some z) m A) (y:SlK w k (some z) m A news)
 (h1:∀ r∈news,∀ u∈r,u.oneCell'=true) (h63:n+m<=maxLen) (b:(n+m)*bytes<=140737488355328) (d:base<=w.heap.size)
 (h:∀ i q p,AR p base e k i (n+m) q (rows ++ news)->w.grownBy p (blk a)->(blk i=blk a\/blk i=some w.heap.size)->wpList P ops Q rest (f.put o.dst (.slice i (n+m) q)) p) :
 wpList P ops Q (o :: rest) f w:=by
 refine jf v fun _ B => ?_;obtain⟨i,q,p,l,h2,h3,h4⟩:=FD (P:=P) (ty:=o.type) E g j y h1 h63 b d;unfold Oper.wp execOp;simp only[C,resolve,invoke,builtin,ij,iF,gS,jH,ja,jE,D,F,l];exact B _ _ (h i q p h2 h3 h4)
theorem LQ(f:zs.length=k)(e:0<k):(madeCells zs.toArray (n*k)).toList=(List.replicate n zs).flatten:=by
 have g:∀ r∈List.replicate n zs,r.length=k:=fun r i=>by rw[(jb.1 i).2];exact f
 refine lG fun j => ?_;by_cases d:j<n*k
 · have c:j=j/k*k+j%k:=by rw[gV];exact(j6 j k).symm
   have b:j/k<n:=(jm e).2 d;have a:j%k<k:=io _ e;have h3:=DX (List.replicate n zs) g (j/k) (j%k) a;rw[<-c]at h3;rw[h3];simp[madeCells,d,f,b,a]
 · have h1:(madeCells zs.toArray (n*k)).toList.length<=j:=by simp[size_madeCells];omega
   have h2:(List.replicate n zs).flatten.length<=j:=by rw[BM _ g];simp;omega
   rw[ig h1,ig h2]
theorem E0{l c:Operand}(x:o.guard=none)(p:o.op=Op.makeSlice t l c)
 {e:TypeId} {zs:List Value} {k bytes n:Nat} (B:P.underlying t=some (.slice e)) (a:BV P e zs k bytes) (z:f.eval l = .int .i64 n) (v:f.eval c = .int .i64 n)
 (s:bytes*n<=281474976710656) (h63:n<=maxLen)
 (q:∀ g,AR g w.heap.size e k (some ⟨w.heap.size,0,none⟩) n n (List.replicate n zs)->Ext w g->wpList P ops Q rest (f.put o.dst (.slice (some ⟨w.heap.size,0,none⟩) n n)) g) :
 wpList P ops Q (o :: rest) f w:=by
 refine jf x fun K j => ?_;obtain⟨i,y,C,b,m⟩:=a.parts;obtain⟨g,d,h2,h3⟩:=run_make_full (P:=P) w w.heap.size t e i (.agg zs.toArray) k B y C b .i64 .i64 n (by rw[m];exact s) h63 (lrf _);have h4:(Value.agg zs.toArray).cells=zs.toArray:=rfl;rw[h4,LQ a.2.1 a.2.2]at h2;unfold Oper.wp execOp;simp only[p,ij,iF,gS,z,v,d,Oper.upon];exact j _ _ (q g ⟨fun r A=>by rw[(jb.1 A).2];exact a.2.1,h2⟩ ((Ext.refl w).grown h3 (by simp)))
end
def Ex(w:World)(a:Option Addr)(n c:Nat)(l:List Rat):Prop:=∃ rows,SlK w 4 a n c rows/\l.length=n/\∀ i,i<n->CJ w (rows.getD i []) (l.getD i 0)
theorem Ex.ext{w d:World}{a:Option Addr}{n c:Nat}{l:List Rat}(h:Ex w a n c l)(e:Ext w d):Ex d a n c l:=by
 obtain⟨b,h1,h2,h3⟩:=h;exact⟨b,h1.ext e,h2,fun i f=>(h3 i f).ext e⟩
theorem MP{a:Nat}(b:0<a)(c:0<d):0<a*(d/Nat.gcd a d) :=
 m6 b (Nat.div_pos (lK c (kF _ _)) (nQ _ b))
def Bk(l:List Rat):Nat:=l.foldl (fun a q=>a*(q.den/Nat.gcd a q.den)) 1
theorem Cn(l:List Rat):0<Bk l:=by
 have:∀ (l:List Rat) (a:Nat),0<a->0<l.foldl (fun a q=>a*(q.den/Nat.gcd a q.den)) a:=by
  intro l
  induction l with
  | nil=>intro a h;exact h
  | cons q r ih=>intro a h;exact ih _ (MP h (jM q.den_nz))
 exact this l 1 (by omega)
theorem Se{l:List Rat}(h:k<l.length):Bk (l.take (k+1))=Bk (l.take k)*((l.getD k 0).den/Nat.gcd (Bk (l.take k)) (l.getD k 0).den):=by
 rw[oH,gD h];simp only[Option.toList,Bk,mJ,m7,List.foldl_nil];simp[h]
theorem Lj{l:List Rat}(hT:AM w)(h:Ex w a n c l)(hd:∀ q∈l,q.den<P2 2400)(hb:∀ k,Bk (l.take k)<P2 9600):Calls prog 218 #[.slice a n c] w (EP w (Bk l:Int)):=by
 obtain⟨an,hS,hl,hq⟩:=h;have HB:=qh hb;have HD:=qh hd;clear hb hd;have hn:=hS.le
 go_enter func218,ntmps218
 go_upto_region 1 with(fail)
 refine AP ?_;intro w0 U O am;have D:Arr w0 w.heap.size 83 (Ac false none 0 0):=O;clear am
 go_wp2_with fail
 refine(Nu (z:=1) (by omega) (by omega)).mono ?_;rintro e w1 ⟨s1,a1,n1,c1,rfl,B,N,a4⟩;have aj:(Ac s1 a1 n1 c1).toArray=#[.bool s1,.slice a1 n1 c1]:=rfl;have Y:=Arr.new w1 83 (Ac false none 0 0)
 go_upto_region 2 with(refine Aa (vs:=Ac s1 a1 n1 c1) rfl rfl rfl rfl rfl Ai Y rfl (Ae _ _ _ _) ?_;intro w2 P Z)
 have C:Ext w1 w2:=((Ext.refl w1).alloc _).grownR Z (lrf _);have ap:w.heap.size<w1.heap.size:=(D.ext B).lt;have W:=(D.ext B).ext C;have hW:=(U.trans B).trans C;have a5:=a4.ext C;clear D O Y Z aj;generalize w1.heap.size=S at *
 go_wp2
 go_loopw[9] (fun iv wr=>∃ (k:Nat) (v:Bool) (p:Option Addr) (t s:Nat),iv = .int .i64 k/\k<=n/\Ext w wr/\Arr wr w.heap.size 83 (Ac false none 0 0)/\Arr wr S 83 (Ac v p t s)/\Hid (decide (((Bk (l.take k):Nat):Int)<0)=v)/\Wd wr p t s (Bk (l.take k))) (fun iv _=>n-(intOf iv).toNat)
 case atStart=>exact⟨0,s1,a1,n1,c1,rfl,gO _,hW,W,P,N,a5⟩
 case round =>
  obtain⟨k,v,p,t,s,rfl,hk,L,D,Q,M,hx⟩:=hrel;clear hW W P N a5 a4 U B C;by_cases a3:k<n
  · have J:=hS.ext L;obtain⟨b,aw,rfl,_⟩:=J.rd (by omega);obtain⟨sx,ax,nx,cx,bx,mx,dx,E,ao,al,a8⟩:=(hq k a3).ext L;have Y:=Arr.new wr 85 (Al false none 0 0 false none 0 0)
    go_upto_region 5 with(first
     | (refine Bg rfl rfl Ak rfl J a3 ?_;rw[E])
     | (refine Aa (vs:=Al sx ax nx cx false bx mx dx) rfl rfl rfl rfl rfl Ak Y rfl (Aq _ _ _ _ _ _ _ _) ?_;intro w3 F a0))
    have g:Ext wr w3:=((Ext.refl wr).alloc _).grownR a0 (lrf _);have HL:=qh (Se (l:=l) (k:=k) (by omega));have HK:=qh (HB.out k);have a9:=qh (HD.out (l.getD k 0) (by rw[gqq,gD (by omega)];simp));have HP:Hid (0<Bk (l.take k)):=qh (Cn _);have aq:w.heap.size<wr.heap.size:=D.lt;have ar:S<wr.heap.size:=Q.lt;clear Y a0 E;generalize wr.heap.size=X at *
    have c2:=F.c 2 rfl;have c3:=F.c 3 rfl;have y:=Bh (a8.ext g);have a7:=hx.ext g;have V:AF w3 (.agg (Ac v p t s).toArray) ((Bk (l.take k):Nat):Int):=⟨v,p,t,s,rfl,M,hx.ext g⟩;have I:=D.ext g;have x:=Q.ext g;have ag:=hT.ext (L.trans g);have m:=L.trans g;clear D Q L g hx al a8 J hq F;generalize l.getD k 0=q at *
    generalize hA:Bk (l.take k)=A at *
    go_wp2_with fail
    refine(AA (r:=decide (q.den=1)) y (kj.2 AG)).mono ?_;rintro e w4 ⟨rfl,f⟩;by_cases i:q.den=1
    · rw[iA i];have j:Hid (Bk (l.take (k+1))=A):=by
       refine qh ?_;rw[HL.out,i,kZ,lf,km]
      clear i;go_wp2;go_roundw
      case rel=>exact⟨k+1,v,p,t,s,by go_num,by omega,m.trans f,I.ext f,x.ext f,by rw[j.out];exact M,by rw[j.out];exact a7.ext f⟩
      case measure=>simp[intOf];omega
    · rw[gR i];have aa:=qh (DI i);have hd0:Hid (q.den≠0):=qh q.den_nz;rw[aa.out]at y;clear i;have e2:=f.cell c2;have e3:=f.cell c3;have R:=x.ext f;have f0:=R.c 0 rfl;have f1:=R.c 1 rfl
      go_wp2_with fail
      refine(SR (r:=decide (q.den=A)) (y.ext f) (V.ext f) (kj.2 (by omega))).mono ?_;rintro e w5 ⟨rfl,ae⟩;have d:=f.trans ae;clear e2 e3 f0 f1;by_cases o:q.den=A
      · rw[iA o];have j:Hid (Bk (l.take (k+1))=A):=by
         refine qh ?_;rw[HL.out,o,Nat.gcd_self,Nat.div_self HP.out,km]
        clear o;go_wp2;go_roundw
        case rel=>exact⟨k+1,v,p,t,s,by go_num,by omega,m.trans d,I.ext d,x.ext d,by rw[j.out];exact M,by rw[j.out];exact a7.ext d⟩
        case measure=>simp[intOf];omega
      · rw[gR o];clear o;have e2:=d.cell c2;have e3:=d.cell c3;have G:=x.ext d;have f0:=G.c 0 rfl;have f1:=G.c 1 rfl;have a2:=Wc (ag.ext d) (V.ext d) (y.ext d) HK.out (Af a9.out (by omega)) (by have:=HP.out;omega) (by have:=hd0.out;omega);simp only[il,<-HL.out]at a2
        go_wp2_with fail
        refine a2.mono ?_;rintro e w6 ⟨s6,a6,n6,c6,rfl,H,ab,ak⟩;have av:(Ac s6 a6 n6 c6).toArray=#[.bool s6,.slice a6 n6 c6]:=rfl;have T:=G.ext H;have af:=(I.ext d).ext H
        go_wp2_with(refine Aa (vs:=Ac s6 a6 n6 c6) rfl rfl rfl rfl rfl Ai T rfl (Ae _ _ _ _) ?_;intro w7 ac K)
        go_roundw
        case rel=>exact⟨k+1,s6,a6,n6,c6,by go_num,by omega,((m.trans d).trans H).grownR K (by omega),af.kept K (by simp;omega),ac,ab,ak.kept T (Ax _ _ _ _) K⟩
        case measure=>simp[intOf];omega
  · have ai:k=n:=by omega
    subst ai;have HT:Hid (l.take k=l):=qh (gG (by omega));rw[HT.out]at M hx;have f0:=Q.c 0 rfl;have f1:=Q.c 1 rfl;have au:(Ac v p t s).toArray=#[.bool v,.slice p t s]:=rfl
    go_wp2_with(refine Aa (vs:=Ac v p t s) rfl rfl rfl rfl rfl Ai D rfl (Ae _ _ _ _) ?_;intro w9 ad ah)
    exact gF (Ap rfl Ai rfl ad) rfl (BA L D (Ax _ _ _ _) ah (by omega) M hx)
theorem At:Agg prog 92 10:=⟨by kernel_rfl,by kernel_rfl⟩
theorem J0:BV prog 85 (Al false none 0 0 false none 0 0) 4 64:=⟨by kernel_rfl,rfl,by omega⟩
def As(e:List Int)(s:Bool)(a:Option Addr)(n c:Nat)(b:Option Addr)(m d:Nat):List Value:=e.map (Value.int .i64) ++ Al s a n c false b m d
theorem Bs:BV prog 92 (As [0,0,0,0,0,0] false none 0 0 none 0 0) 10 112:=⟨by kernel_rfl,rfl,by omega⟩
def BB(w:World)(row:List Value)(t:Pl.Tm):Prop:=∃ s a n c b m d,row=As t.1 s a n c b m d/\t.1.length=6/\CJ w (Al s a n c false b m d) t.2
theorem BB.ext{w f:World}{row:List Value}{t:Pl.Tm}(h:BB w row t)(e:Ext w f):BB f row t:=by
 obtain⟨s,a,n,c,b,m,d,h1,h2,h3⟩:=h;exact⟨s,a,n,c,b,m,d,h1,h2,h3.ext e⟩
def Bn(w:World)(a:Option Addr)(n c:Nat)(l:List Pl.Tm):Prop:=∃ rows,SlK w 10 a n c rows/\l.length=n/\∀ i,i<n->BB w (rows.getD i []) (l.getD i ([],0))
theorem Bn.ext{w d:World}{a:Option Addr}{n c:Nat}{l:List Pl.Tm}(h:Bn w a n c l)(e:Ext w d):Bn d a n c l:=by
 obtain⟨b,h1,h2,h3⟩:=h;exact⟨b,h1.ext e,h2,fun i f=>(h3 i f).ext e⟩
theorem AI{s:Bool} :∀ v∈As e s a n c b m d,v.oneCell'=true:=by
 intro v f;rcases iw.1 f with f|f
 · obtain⟨x,_,rfl⟩:=ie.1 f;rfl
 · exact Aq _ _ _ _ _ _ _ _ v f
theorem Bt(h:e.length=6):∃ a b c d f g,e=[a,b,c,d,f,g]:=by
 match e,h with
 | [a,b,c,d,f,g],_=>exact⟨a,b,c,d,f,g,rfl⟩
theorem GP{l:List Pl.Tm}(h:Bn w a n c l)(hn:n<=1000000):Calls prog 219 #[.slice a n c] w (fun e Y=>∃ R S,e = .returned (.slice R n S)/\Ext w Y/\Ex Y R n S (l.map (·.2))):=by
 obtain⟨W,hS,U,V⟩:=h;have Z:=qh V;clear V
 go_enter func219,ntmps219
 go_upto_region 2 with(refine E0 rfl rfl (by kernel_rfl) J0 rfl rfl (by omega) (by unfold maxLen;omega) ?_;intro w1 r q)
 go_wp2
 go_loopw[11] (fun O wr=>∃ (k:Nat) (F:List (List Value)),O = .int .i64 k/\k<=n/\Ext w wr/\AR wr w.heap.size 85 4 (some ⟨w.heap.size,0,none⟩) n n F/\Hid (∀ i,i<k->CJ w (F.getD i []) ((l.map (·.2)).getD i 0))) (fun O _=>n-(intOf O).toNat)
 case atStart=>exact⟨0,_,rfl,gO _,q,r,qh (fun i C=>absurd C (by omega))⟩
 case round =>
  obtain⟨k,F,rfl,hk,p,J,P⟩:=hrel;clear r q;by_cases d:k<n
  · have m:=hS.ext p;obtain⟨b,a1,rfl,_⟩:=m.rd (by omega);obtain⟨G,y,E,A,z,D,B,f,h6,x⟩:=Z.out k d;have Q:Hid ((l.map (·.2)).getD k 0=(l.getD k ([],0)).2):=qh (by simp[U,d]);generalize l.getD k ([],0)=t at *
    obtain⟨te,tq⟩:=t;obtain⟨x0,x1,x2,x3,x4,x5,o⟩:=Bt h6;simp only at o f Q x;subst o;have T:=Arr.new wr 92 (As [0,0,0,0,0,0] false none 0 0 none 0 0)
    go_upto_region 5 with(first
     | (refine Bg rfl rfl At rfl m d ?_;rw[f])
     | (refine Aa (vs:=As [x0,x1,x2,x3,x4,x5] G y E A z D B) rfl rfl rfl rfl rfl At T rfl AI ?_;intro w3 g v))
    have j:Ext wr w3:=((Ext.refl wr).alloc _).grownR v (lrf _);have s:=J.ext j;have I:=p.trans j;clear T v J p j f h6 m;generalize wr.heap.size=X at *
    have c6:=g.c 6 rfl;have c7:=g.c 7 rfl;have c8:=g.c 8 rfl;have c9:=g.c 9 rfl;have a0:(Al G y E A false z D B).toArray=#[.bool G,.slice y E A,.bool false,.slice z D B]:=rfl;have H:=qh (s.len (by omega))
    go_wp2_with(refine Id (vs:=Al G y E A false z D B) rfl rfl (by omega) Ak rfl rfl rfl s d rfl (Aq _ _ _ _ _ _ _ _) ?_;intro w4 K L)
    go_roundw
    case rel =>
     refine⟨k+1,_,by go_num,by omega,I.grownR L (lrf _),K,qh fun i C => ?_⟩;by_cases M:i=k
     · subst M;rw[Q.out,gqq,jF (by rw[H.out];exact d)];exact x
     · rw[gqq,List.getElem?_set_ne (by omega),<-gqq];exact P.out i (by omega)
    case measure=>simp[intOf];omega
  · have N:k=n:=by omega
    subst N;go_wp2;go_ret;exact⟨_,_,rfl,p,F,J.slk (by omega),by simp[U],fun i C=>(P.out i C).ext p⟩
theorem Co{l:List Pl.Tm}(I:AM w)(h:Bn w a n c l)(K:n<=1000000)(E:∀ q∈l.map (·.2),q.den<P2 2400)(D:∀ k,Bk ((l.map (·.2)).take k)<P2 9600):Calls prog 157 #[.slice a n c] w (EP w (Bk (l.map (·.2)):Int)):=by
 have v:=fun(i:World) (s:Ext w i)=>qh (GP (h.ext s) K);have t:=fun(i:World) (s:Ext w i) (F:Option Addr) (G:Nat) (L:Ex i F n G (l.map (·.2)))=>qh (Lj (I.ext s) L E D);clear E D h
 go_enter func157,ntmps157
 go_upto_region 1 with(fail)
 refine AP ?_;intro M b p A;have H:Arr M w.heap.size 83 (Ac false none 0 0):=p;clear A
 go_wp2_with fail
 refine(v _ b).out.mono ?_;rintro e P ⟨N,O,rfl,d,y⟩
 go_wp2_with fail
 refine(t _ (b.trans d) _ _ y).out.mono ?_;rintro e Q ⟨C,m,B,o,rfl,f,j,z⟩;have J:(Ac C m B o).toArray=#[.bool C,.slice m B o]:=rfl;have g:=(H.ext d).ext f
 go_wp2_with(refine Aa (vs:=Ac C m B o) rfl rfl rfl rfl rfl Ai g rfl (Ae _ _ _ _) ?_;intro R r x)
 exact gF (Ap rfl Ai rfl r) rfl (BA ((b.trans d).trans f) g (Ax _ _ _ _) x (lrf _) j z)
def Lk(c:UInt8):Bool:=decide (48<=c.toNat) && decide (c.toNat<=57)
theorem Ey{c:UInt8}:Lk c=true<->W.isDig c:=by simp[Lk,W.isDig]
def pre(l:List UInt8):List UInt8:=l.takeWhile Lk
def suf(l:List UInt8):List UInt8:=l.dropWhile Lk
theorem F3(l:List UInt8):pre l ++ suf l=l:=List.takeWhile_append_dropWhile
theorem J1(l:List UInt8):W.digs (pre l):=fun c a=>by
 induction l with
 | nil=>simp[pre]at a
 | cons x r ih =>
  unfold pre at a ih;rw[List.takeWhile_cons]at a;split at a
  · rename_i h;rcases iE.1 a with rfl|a
    · exact Ey.1 h
    · exact ih a
  · simp at a
theorem QT{d:List UInt8}(a:W.digs d)(e:∀ c,r.head?=some c->¬ W.isDig c):pre (d ++ r)=d/\suf (d ++ r)=r:=by
 induction d with
 | nil =>
  cases r with
  | nil=>exact⟨rfl,rfl⟩
  | cons c t =>
   have:Lk c=false:=by
    cases h:Lk c with
    | false=>rfl
    | true=>exact absurd (Ey.1 h) (e c rfl)
   simp[pre,suf,this]
 | cons x t ih =>
  have f:Lk x=true:=Ey.2 (a x (by simp));have:=ih (fun c b=>a c (by simp[b]));unfold pre suf at *
  simp[f,this]
def C9(l:List UInt8):(Bool×List UInt8×List UInt8)×Bool :=
 let neg:Bool:=decide (l.head?=some 45)
 let r1:=if neg=true then l.tail else l
 let num:=pre r1
 let r2:=suf r1
 if num=[48]then((neg,num,[]),!neg && decide (r2=[]))
 else if num=[]\/num.head?=some 48 then((neg,num,[]),false)
 else if r2=[]then((neg,num,[]),true)
 else if r2.head?≠some 47 then((neg,num,[]),false)
 else((neg,num,pre r2.tail),decide (suf r2.tail=[]) && decide (pre r2.tail≠[]) && decide ((pre r2.tail).head?≠some 48) && decide (pre r2.tail≠[49]))
structure Spl(l:List UInt8)(neg:Bool)(num den:List UInt8):Prop where
 eq:l=(if neg=true then [45]else []) ++ (num ++ (if den=[]then []else 47 :: den))
 dn:W.digs num
 dd:W.digs den
 ne:num≠[]
 z:num.head?=some 48->num=[48]/\neg=false/\den=[]
 nd:den.head?≠some 48
 n1:den≠[49]
theorem Wz:¬ W.isDig 45:=by simp[W.isDig]
theorem WA:¬ W.isDig 47:=by simp[W.isDig]
theorem Spl.split{l f a:List UInt8}{neg:Bool}(h:Spl l neg f a):C9 l=((neg,f,a),true):=by
 obtain⟨rfl,h1,h2,h3,h4,h5,h6⟩:=h;obtain⟨c,t,rfl⟩:=je h3;have q:c≠45:=by rintro rfl;exact Wz (h1 45 (by simp))
 have e:decide (((if neg=true then [45]else []) ++ ((c :: t) ++ (if a=[]then []else 47 :: a))).head?=some 45)=neg:=by
  cases neg <;> simp[q]
 have k:(if neg=true then((if neg=true then [45]else []) ++ ((c :: t) ++ (if a=[]then []else 47 :: a))).tail else(if neg=true then [45]else []) ++ ((c :: t) ++ (if a=[]then []else 47 :: a)))=(c :: t) ++ (if a=[]then []else 47 :: a):=by
  cases neg <;> simp
 have hp:=QT (d:=c :: t) (r:=if a=[]then []else 47 :: a) h1 (by
  intro x g;split at g
  · simp at g
  · simp only[List.head?_cons,gK]at g
    subst g;exact WA)
 unfold C9;simp only[e,k,hp.1,hp.2];by_cases m:c=48
 · subst m;obtain⟨n,o,p⟩:=h4 rfl;subst o p;rw[gY n];simp
 · have j:¬ (c :: t=[48]):=by intro h;simp at h;exact m h.1
   rw[gT j,gT (by simp[m])];by_cases i:a=[]
   · subst i;simp
   · simp only[gT i];rw[gT (by simp),gT (by simp)];have b:=QT (d:=a) (r:=[]) h2 (by simp);rw[jL]at b;simp only[nF,b.1,b.2];simp[i,h5,h6]
theorem LR(h:C9 l=((neg,num,den),true)):Spl l neg num den:=by
 unfold C9 at h;simp only at h;generalize b:decide (l.head?=some 45)=k at h;generalize a:(if k=true then l.tail else l)=i at h;have j:l=(if k=true then [45]else []) ++ i:=by
  cases k with
  | true =>
   simp only[jV]at b;simp only[li]at a |-;cases l with
   | nil=>simp at b
   | cons c t=>simp at b a;rw[b,a];rfl
  | false=>simp at a |-; exact a
 have f:=F3 i;have e:=J1 i;generalize pre i=n at *
 generalize suf i=m at *
 split at h
 · rename_i h0;simp only[kX,jn,oI,jV]at h;obtain⟨⟨rfl,rfl,rfl⟩,rfl,rfl⟩:=h;subst h0;exact⟨by rw[j,<-f];simp,e,by simp[W.digs],by simp,fun _=>⟨rfl,rfl,rfl⟩,by simp,by simp⟩
 · split at h
   · simp at h
   · rename_i h0 h1;simp only[not_or]at h1;split at h
     · rename_i h2;simp only[kX,jp]at h;obtain⟨rfl,rfl,rfl⟩:=h;subst h2;exact⟨by rw[j,<-f];simp,e,by simp[W.digs],h1.1,fun h=>absurd h h1.2,by simp,by simp⟩
     · split at h
       · simp at h
       · rename_i h2 h3;have g:m.head?=some 47:=ia h3;obtain⟨c,t,rfl⟩:=je h2;simp only[List.head?_cons,gK]at g;subst g;simp only[nF,kX,jn]at h;obtain⟨⟨rfl,rfl,rfl⟩,⟨⟨h4,h5⟩,h6⟩,h7⟩:=h;have h4:=kE h4;have h5:=kE h5;have h6:=kE h6;have h7:=kE h7;have d:=F3 t;rw[h4,jL]at d;refine⟨?_,e,J1 t,h1.1,fun h=>absurd h h1.2,h6,h7⟩;rw[j,<-f,gT h5,d]
theorem MQ(z:Int):Lib.itoa z=(if z<0 then [45]else []) ++ Lib.decDigits z.natAbs:=by
 unfold Lib.itoa;split
 · rfl
 · rw[show z.toNat=z.natAbs by omega];rfl
theorem QU(h:(Lib.decDigits n).head?=some 48):n=0:=by
 rcases gX n with h0|h0
 · exact h0
 · obtain⟨c,r,e,a⟩:=W.dec_head h0;rw[e]at h;simp at h;exact absurd h a
def AD(l:List UInt8):Option Rat :=
 let p:=C9 l
 if p.2=true then
  let n:Int:=if p.1.1=true then -(W.decV p.1.2.1:Int)else W.decV p.1.2.1
  if p.1.2.2=[]then some (mkRat n 1)else if n.natAbs.gcd (W.decV p.1.2.2)=1 then some (mkRat n (W.decV p.1.2.2))else none
 else none
theorem QW(q:Rat):Spl (txt q) (decide (q.num<0)) (Lib.decDigits q.num.natAbs) (if q.den=1 then []else Lib.decDigits q.den):=by
 have a:=q.den_nz;refine⟨?_,W.digs_dec _,?_,W.dec_ne _,?_,?_,?_⟩
 · unfold txt;rw[MQ];by_cases h:q.den=1
   · simp[h]
   · simp[h,W.dec_ne]
 · split
   · simp[W.digs]
   · exact W.digs_dec _
 · intro h;have h0:=QU h;have b:q.num=0:=by omega
   have c:=Pl.rat_num_den_zero.1 b;refine⟨by rw[h0,W.dec_zero],by simp[b],?_⟩;subst c;rfl
 · split
   · simp
   · intro h;exact a (QU h)
 · split
   · simp
   · rename_i h1;intro h;have:=iP W.decV h;rw[W.decV_dec]at this;exact h1 (by rw[this];rfl)
theorem Cx(q:Rat):AD (txt q)=some q:=by
 have h:=(QW q).split;unfold AD;simp only[h,li];have a:(if decide (q.num<0)=true then -((W.decV (Lib.decDigits q.num.natAbs):Nat):Int)else((W.decV (Lib.decDigits q.num.natAbs):Nat):Int))=q.num:=by
  rw[W.decV_dec];by_cases h:q.num<0
  · simp only[h,nL,li];omega
  · simp only[h,oJ];simp;omega
 rw[a];by_cases h1:q.den=1
 · simp only[h1,li];have:=nB q;rw[h1]at this;rw[this]
 · simp only[gT h1,gT (W.dec_ne _),W.decV_dec];rw[gY q.reduced,nB]
theorem Cp(h:AD l=some q):l=txt q:=by
 unfold AD at h;generalize hp:C9 l=p at h;obtain⟨⟨j,a,b⟩,y⟩:=p;simp only at h;cases y with
 | false=>simp at h
 | true =>
  have i:=LR hp;simp only[li]at h;generalize w:(if j=true then -((W.decV a:Nat):Int)else((W.decV a:Nat):Int))=n at h
  have g:Lib.decDigits (W.decV a)=a:=W.dec_of_digs i.dn i.ne (fun c r e s=>by
   have:=(i.z (by rw[e,s];rfl)).1;rw[e]at this;simp at this
   exact this.2)
  have k:n.natAbs=W.decV a:=by rw[<-w];split <;> omega
  have v:n<0<->j=true:=by
   rw[<-w];cases j with
   | false=>simp
   | true =>
    simp only[li,iff_true];have h0:W.decV a≠0:=by
     intro h0;rw[h0,W.dec_zero]at g;have:=(i.z (by rw[<-g];rfl)).2.1;simp at this
    omega
  have o:Lib.itoa n=(if j=true then [45]else []) ++ a:=by
   rw[MQ,k,g];simp only[v]
  by_cases m:b=[]
  · rw[gY m]at h;simp only[gK]at h;have:=Pl.rat_eq_mk (q:=q) (n:=n) (d:=1) (by omega) (kZ _) h.symm;rw[i.eq,txt,this.1,this.2,o,m];simp
  · rw[gT m]at h;split at h
    · rename_i x;simp only[gK]at h
      have f:Lib.decDigits (W.decV b)=b:=W.dec_of_digs i.dd m (fun c r e s=>by
       have:=i.nd;rw[e,s]at this
       simp at this)
      have hd0:W.decV b≠0:=by
       intro h0;rw[h0,W.dec_zero]at f;have:=i.nd;rw[<-f]at this;simp at this
      have t:W.decV b≠1:=by
       intro h0;rw[h0]at f;have:=i.n1;rw[<-f]at this;exact this (by rw[Lib.decDigits];rfl)
      have:=Pl.rat_eq_mk (q:=q) (n:=n) (d:=W.decV b) hd0 x h.symm;rw[i.eq,txt,this.1,this.2,o,gT m,gT t,f];simp
    · simp at h
section
variable {P:Program} {w:World}
theorem Sf{o:Nat}(c:(P.info? ty).map (·.size)=some vs.length)(j:v.cells=vs.toArray)(h:Arr w g t cs)(f:o+vs.length<=cs.length)(h1:∀ v∈vs,v.oneCell'=true)(b:cs.take o ++ vs ++ cs.drop (o+vs.length)=new) :
 ∃ e,(Instr.storeAt ty (.pointer (some ⟨g,o,none⟩)) v).run P w = .ok () e/\Arr e g t new/\w.grownBy e (some g):=by
 have a:=run_storeCells_at (P:=P) g o t vs 0 cs.toArray w h (by simpa using f) h1;rw[iO]at a;simp only[b]at a;refine⟨w.setRow g new.toArray,?_,Cm h new,BK w g _⟩;cases d:P.info? ty with
 | none=>simp[d]at c
 | some inf =>
  have i:inf.size=vs.length:=by simpa[d]using c
  simp[Instr.storeAt,Instr.sureAddr,storeVar,Go.sizeOf,typeInfo,d,j,i,a]
theorem CD(j:o.guard=none)(n:o.op = .store ty x y)
 {g a:Nat} {t:TypeId} {cs:List Value} (vs d:List Value) {v:Value} (k:(P.info? ty).map (·.size)=some vs.length) (q:f.eval x = .pointer (some ⟨g,a,none⟩)) (r:f.eval y=v) (p:v.cells=vs.toArray) (h:Arr w g t cs) (m:a+vs.length<=cs.length) (h1:∀ v∈vs,v.oneCell'=true) (b:cs.take a ++ vs ++ cs.drop (a+vs.length)=d)
 (l:∀ e,Arr e g t d->w.grownBy e (some g)->wpList P ops Q rest (f.put o.dst undef) e):wpList P ops Q (o :: rest) f w:=by
 refine jf j fun K i => ?_;obtain⟨e,c,h2,h3⟩:=Sf (P:=P) k p h m h1 b;unfold Oper.wp execOp;simp only[n,q,r,ij,c,gS,iF,Oper.upon];exact i _ _ (l _ h2 h3)
end
theorem E5(h:k<s.size):(An s).getD k 0=s[k]:=by
 have h1:k<(An s).length:=by rw[Ay];exact h
 rw[gqq,gD h1];rfl
theorem Vv(h:s.size=0):An s=[]:=gQ (by rw[Ay];exact h)
theorem X3(h0:0<s.size):((s.extract 0 1).toList == [45])=decide ((An s).head?=some 45)/\(An s).tail=An (s.extract 1 s.size):=by
 have b:(s.extract 0 1).toList=An (s.extract 0 1):=jD ..;rw[b,Bc,Bc];have a:=Ay s;generalize An s=l at *
 cases l with
 | nil=>simp at a;omega
 | cons c r =>
  refine⟨?_,?_⟩
  · simp;by_cases h:c=45 <;> simp[h]
  · simp only[nF,lg,ji];rw[gG (by simp at a;omega)]
theorem Ll(s:ByteArray)(w:World) :
 Calls prog 200 #[.string s,.string { data:=#[45] }] w fun e d=>e = .returned (.tuple #[.string ⟨(if(An s).head?=some 45 then(An s).tail else An s).toArray⟩,.bool (decide ((An s).head?=some 45))])/\d=w:=by
 by_cases h0:s.size=0
 · have e:=Vv h0;have c:s=⟨#[]⟩:=EX e;subst c
   go_enter func200,ntmps200
   go_wp2
   go_ret2
   exact⟨rfl,rfl⟩
 · have h1:(1:Int)<=(s.size:Int):=by omega
   obtain⟨a,b⟩:=X3 (s:=s) (by omega);by_cases h:(An s).head?=some 45
   · simp only[h,li,nL]at a |-
     go_enter func200,ntmps200
     go_wp2
     go_ret2
     exact⟨by rw[b];rfl,rfl⟩
   · simp only[h,mV,oJ]at a |-
     go_enter func200,ntmps200
     go_wp2
     go_ret2
     exact⟨rfl,rfl⟩
theorem W1(b:k<(pre l).length):k<l.length/\48<=(l.getD k 0).toNat/\(l.getD k 0).toNat<=57:=by
 have a:=F3 l;have c:=iP List.length a;rw[iD]at c;have h1:l.getD k 0=(pre l)[k]:=by
  have:(pre l ++ suf l).getD k 0=(pre l)[k]:=by simp[gZ b,b]
  rw[a]at this;exact this
 have h2:=J1 l _ (jl b);rw[h1];exact⟨by omega,h2.1,h2.2⟩
theorem Tz(h:(pre l).length<l.length):¬ (48<=(l.getD (pre l).length 0).toNat/\(l.getD (pre l).length 0).toNat<=57):=by
 induction l with
 | nil=>simp at h
 | cons c r ih =>
  by_cases a:Lk c=true
  · have e:pre (c :: r)=c :: pre r:=by simp[pre,a]
    rw[e]at h |-;simp only[j8,kQ]at h |-;exact ih (by omega)
  · have e:pre (c :: r)=[]:=by simp[pre,a]
    rw[e];simpa[Lk]using a
theorem Gj(s:ByteArray)(w:World)(q:s.size<=1000000) :
 Calls prog 201 #[.string s] w fun e p=>e = .returned (.tuple #[.string ⟨(pre (An s)).toArray⟩,.string ⟨(suf (An s)).toArray⟩])/\Ext w p:=by
 obtain⟨K,b⟩:∃ K,(pre (An s)).length=K:=⟨_,rfl⟩
 have j:Hid (∀ k,k<K->∃ h:k<s.size,48<=((s[k].toNat:Nat):Int)/\((s[k].toNat:Nat):Int)<=57):=qh fun k o=>by
  obtain⟨h1,h2,h3⟩:=W1 (l:=An s) (k:=k) (by omega);rw[Ay]at h1;rw[E5 h1]at h2 h3;exact⟨h1,by omega,by omega⟩
 have m:Hid (∀ h:K<s.size,¬ (48<=((s[K].toNat:Nat):Int)/\((s[K].toNat:Nat):Int)<=57)):=qh fun h=>by
  have h1:=Tz (l:=An s) (by rw[Ay,b];exact h);rw[b,E5 h]at h1;omega
 have n:K<=s.size:=by
  have:=iP List.length (F3 (An s));rw[iD,Ay]at this;omega
 have a:Hid (pre (An s)=An (s.extract 0 K)/\suf (An s)=An (s.extract K s.size)):=by
  have h1:=F3 (An s);refine qh ⟨?_,?_⟩
  · rw[Bc,ji,mp];have h2:(pre (An s) ++ suf (An s)).take K=pre (An s):=by rw[<-b];simp
    rw[h1]at h2;exact h2.symm
  · rw[Bc];have h2:(pre (An s) ++ suf (An s)).drop K=suf (An s):=by rw[<-b];simp
    rw[h1]at h2;rw[h2,gG];rw[<-h2,kN,Ay];omega
 clear b
 go_enter func201,ntmps201
 go_wp2
 go_loop[4] (fun g=>∃ k:Nat,g = .int .i64 k/\k<=K) (fun g=>K-(intOf g).toNat)
 case atStart=>exact⟨0,rfl,gO _⟩
 case round =>
  obtain⟨k,rfl,o⟩:=hrel;by_cases d:k<K
  · obtain⟨h1,h2,h3⟩:=j.out k d;go_wp2;go_round
    case rel=>exact⟨k+1,by go_num,by omega⟩
    case measure=>simp[intOf];omega
  · have c:k=K:=by omega
    subst c;by_cases f:k<s.size
    · have h1:=m.out f;by_cases h2:48<=((s[k].toNat:Nat):Int)
      · have h3:¬ ((s[k].toNat:Nat):Int)<=57:=fun h3=>h1 ⟨h2,h3⟩;clear h1;go_wp2
        go_quiet (fail)
        go_wp2
        go_ret2
        exact⟨by rw[a.out.1,a.out.2];rfl,(Ext.refl w).drewN _⟩
      · clear h1;go_wp2
        go_quiet (fail)
        go_wp2
        go_ret2
        exact⟨by rw[a.out.1,a.out.2];rfl,(Ext.refl w).drewN _⟩
    · have i:¬ (k:Int)<(s.size:Int):=by omega
      go_wp2
      go_quiet (fail)
      go_wp2
      go_ret2
      exact⟨by rw[a.out.1,a.out.2];rfl,(Ext.refl w).drewN _⟩
theorem MR{c:UInt8}{t:List UInt8}(h:c≠UInt8.ofNat n):((((({ data:=(c :: t).toArray }:ByteArray)[0]'(by show 0<(c :: t).toArray.size;simp)).toNat:Nat):Int) == (n:Int))=false:=by
 show((c.toNat:Int) == (n:Int))=false;have h1:c.toNat≠n:=fun e=>h (by rw[<-e];simp);simp;omega
theorem d49{d:UInt8}:decide (d :: dt≠[49])=(!d == 49 || !dt.isEmpty):=by
 by_cases h1:d=49 <;> cases dt <;> simp[h1]
theorem Bj:Agg prog 175 3:=⟨by kernel_rfl,by kernel_rfl⟩
def CC(neg:Bool)(num den:List UInt8):List Value:=[.bool neg,.string ⟨num.toArray⟩,.string ⟨den.toArray⟩]
theorem CT(neg:Bool)(b a:List UInt8):∀ v∈CC neg b a,v.oneCell'=true:=by
 intro v c;simp only[CC,iE,kC,mU]at c;rcases c with rfl|rfl|rfl <;> rfl
theorem Sg(s:ByteArray)(w:World)(hs:s.size<=1000000) :
 Calls prog 138 #[.string s] w fun e w'=>e = .returned (.tuple #[.agg (CC (C9 (An s)).1.1 (C9 (An s)).1.2.1 (C9 (An s)).1.2.2).toArray,.bool (C9 (An s)).2])/\Ext w w':=by
 obtain⟨a,o⟩:∃ b:Bool,decide ((An s).head?=some 45)=b:=⟨_,rfl⟩;have K:=Ll s;rw[o]at K;have a1:(if(An s).head?=some 45 then(An s).tail else An s)=if a=true then(An s).tail else An s:=by rw[<-o];by_cases h:(An s).head?=some 45 <;> simp[h]
 rw[a1]at K;obtain⟨P,W⟩:∃ P,C9 (An s)=P:=⟨_,rfl⟩;rw[W];unfold C9 at W;simp only[o]at W;have a2:(if a=true then(An s).tail else An s).length<=1000000:=by
  have:=Ay s;split
  · simp;omega
  · omega
 clear a1 o;generalize (if a=true then(An s).tail else An s)=M at *
 have Z:=fun(wx:World)=>qh (Gj ⟨M.toArray⟩ wx (by show M.toArray.size<=_;simpa using a2));simp only[Cw]at Z;have a5:(suf M).length<=1000000:=by have:=iP List.length (F3 M);rw[iD]at this;omega
 generalize pre M=v at *
 generalize suf M=r2 at *
 have m:=qh W;clear W a2
 go_enter func138,ntmps138
 go_upto_region 2 with(fail)
 refine Cf ?_;intro w0 R O Q a6;have hR:Arr w0 w.heap.size 175 (CC false [] []):=O;have hF:Arr w0 (w.heap.size+1) 175 (CC false [] []):=Q;clear O Q a6
 go_wp2_with fail
 refine(K w0).mono ?_;rintro e w1 ⟨rfl,rfl⟩
 go_upto_region 4 with(refine CD rfl rfl [.bool a] (CC a [] []) (by kernel_rfl) rfl rfl rfl hF (by simp[CC]) (by simp[Value.oneCell']) rfl ?_;intro w2 T H)
 have S:=R.grownR H (by omega);have X:=hR.kept H (by simp);clear R hR hF H
 go_wp2_with fail
 refine(Z w2).out.mono ?_;rintro e w3 ⟨rfl,z⟩;have U:=T.ext z
 go_upto_region 5 with(refine CD rfl rfl [.string ⟨v.toArray⟩] (CC a v []) (by kernel_rfl) rfl rfl rfl U (by simp[CC]) (by simp[Value.oneCell']) rfl ?_;intro w4 q I)
 have k:=(S.trans z).grownR I (by omega);have l:=(X.ext z).kept I (by simp);clear S z U T X I;have c0:=q.c 0 rfl;have c1:=q.c 1 rfl;have c2:=q.c 2 rfl;by_cases h48:v=[48]
 · subst h48;cases a with
   | true =>
    have j:Hid (((true,[48],[]),false)=P):=by rw[<-m.out,gY rfl];exact qh (by simp)
    go_wp2_with(refine Aa (vs:=CC true [48] []) rfl rfl rfl rfl rfl Bj l rfl (CT _ _ _) ?_;intro w9 f g)
    refine gF (Ao rfl Bj rfl rfl f) rfl ⟨?_,k.grownR g (by omega)⟩;rw[<-j.out];rfl
   | false =>
    have j:Hid (((false,[48],[]),r2.isEmpty)=P):=by rw[<-m.out,gY rfl];exact qh (by cases r2 <;> rfl)
    go_wp2_with(refine Aa (vs:=CC false [48] []) rfl rfl rfl rfl rfl Bj l rfl (CT _ _ _) ?_;intro w9 f g)
    refine gF (Ao rfl Bj rfl rfl f) rfl ⟨?_,k.grownR g (by omega)⟩;rw[<-j.out];rfl
 · have a7:(v == [48])=false:=by simpa using h48
   rw[gT h48]at m;by_cases h0:v=[]
   · subst h0;have j:Hid (((a,[],[]),false)=P):=by rw[<-m.out,gY (Or.inl rfl)];exact qh rfl
     go_wp2_with(refine Aa (vs:=CC a [] []) rfl rfl rfl rfl rfl Bj l rfl (CT _ _ _) ?_;intro w9 f g)
     refine gF (Ao rfl Bj rfl rfl f) rfl ⟨?_,k.grownR g (by omega)⟩;rw[<-j.out];rfl
   · obtain⟨c,p,rfl⟩:=je h0;by_cases hc:c=48
     · subst hc;have j:Hid (((a,48 :: p,[]),false)=P):=by rw[<-m.out,gY (Or.inr (by simp))];exact qh rfl
       go_wp2_with(refine Aa (vs:=CC a (48 :: p) []) rfl rfl rfl rfl rfl Bj l rfl (CT _ _ _) ?_;intro w9 f g)
       refine gF (Ao rfl Bj rfl rfl f) rfl ⟨?_,k.grownR g (by omega)⟩;rw[<-j.out];rfl
     · rw[gT (by simp[hc])]at m;have a4:=MR (t:=p) (n:=48) hc;by_cases hr:r2=[]
       · subst hr;have j:Hid (((a,c :: p,[]),true)=P):=by rw[<-m.out,gY rfl];exact qh rfl
         go_wp2_with(refine Aa (vs:=CC a (c :: p) []) rfl rfl rfl rfl rfl Bj l rfl (CT _ _ _) ?_;intro w9 f g)
         refine gF (Ao rfl Bj rfl rfl f) rfl ⟨?_,k.grownR g (by omega)⟩;rw[<-j.out];rfl
       · obtain⟨d,E,rfl⟩:=je hr;rw[gT (by simp)]at m;by_cases hd:d=47
         · subst hd;rw[gT (by simp)]at m;have L:An (({ data:=(47 :: E).toArray }:ByteArray).extract 1 (E.length+1))=E:=by
            rw[Bc,Cw,lg,ji,nw,nT]
           have r:=Gj (({ data:=(47 :: E).toArray }:ByteArray).extract 1 (E.length+1)) w4 (by rw[<-Ay,L];simp at a5;omega);rw[L]at r;have N:=qh r;clear r L;obtain⟨y,D⟩:∃ d,pre E=d:=⟨_,rfl⟩;obtain⟨r3,a3⟩:∃ d,suf E=d:=⟨_,rfl⟩;simp only[nF,D,a3]at m N;clear D a3
           go_wp2_with fail
           refine N.out.mono ?_;rintro e w5 ⟨rfl,A⟩;have V:=q.ext A;have Y:=l.ext A
           go_upto_region 14 with(refine CD rfl rfl [.string ⟨y.toArray⟩] (CC a (c :: p) y) (by kernel_rfl) rfl rfl rfl V (by simp[CC]) (by simp[Value.oneCell']) rfl ?_;intro w6 F J)
           have B:=(k.trans A).grownR J (by omega);have i:=Y.kept J (by simp);clear k A V q l Y J c0 c1 c2 a4;have c0:=F.c 0 rfl;have c1:=F.c 1 rfl;have c2:=F.c 2 rfl;have d0:=i.c 0 rfl;have d1:=i.c 1 rfl;have d2:=i.c 2 rfl;have f0:=i.frozen 0;have f1:=i.frozen 1;have f2:=i.frozen 2;by_cases h3:r3=[]
           · subst h3;by_cases hd0:y=[]
             · subst hd0;have j:Hid (((a,c :: p,[]),false)=P):=by rw[<-m.out];exact qh (by simp)
               go_region
               go_wp2;refine gF (Ao rfl Bj rfl rfl (((i.set 0 _).set 1 _).set 2 _)) rfl ⟨?_,(((B.setCell (lrf _) _).setCell (lrf _) _).setCell (lrf _) _).drew⟩;rw[<-j.out];rfl
             · obtain⟨d,C,rfl⟩:=je hd0;by_cases G:d=48
               · subst G;have a0:((((({ data:=(48 :: C).toArray }:ByteArray)[0]'(by show 0<(48 :: C).toArray.size;simp)).toNat:Nat):Int) != 48)=false:=rfl;have j:Hid (((a,c :: p,48 :: C),false)=P):=by rw[<-m.out];exact qh (by simp)
                 go_region
                 go_wp2;refine gF (Ao rfl Bj rfl rfl (((i.set 0 _).set 1 _).set 2 _)) rfl ⟨?_,(((B.setCell (lrf _) _).setCell (lrf _) _).setCell (lrf _) _).drew⟩;rw[<-j.out];rfl
               · have a0:((((({ data:=(d :: C).toArray }:ByteArray)[0]'(by show 0<(d :: C).toArray.size;simp)).toNat:Nat):Int) != 48)=true:=iP (!·) (MR (t:=C) (n:=48) G);have j:Hid (((a,c :: p,d :: C),(!d == 49 || !C.isEmpty))=P):=by rw[<-m.out];exact qh (by rw[kX];refine⟨rfl,?_⟩;rw[d49];simp[G])
                 go_region
                 go_wp2;refine gF (Ao rfl Bj rfl rfl (((i.set 0 _).set 1 _).set 2 _)) rfl ⟨?_,(((B.setCell (lrf _) _).setCell (lrf _) _).setCell (lrf _) _).drew⟩;rw[<-j.out];rfl
           · obtain⟨x,xt,rfl⟩:=je h3;have j:Hid (((a,c :: p,y),false)=P):=by rw[<-m.out];exact qh (by simp)
             go_region
             go_wp2;refine gF (Ao rfl Bj rfl rfl (((i.set 0 _).set 1 _).set 2 _)) rfl ⟨?_,(((B.setCell (lrf _) _).setCell (lrf _) _).setCell (lrf _) _).drew⟩;rw[<-j.out];rfl
         · have a0:=MR (t:=E) (n:=47) hd;have j:Hid (((a,c :: p,[]),false)=P):=by rw[<-m.out,gY (by simp[hd])];exact qh rfl
           go_wp2_with(refine Aa (vs:=CC a (c :: p) []) rfl rfl rfl rfl rfl Bj l rfl (CT _ _ _) ?_;intro w9 f g)
           refine gF (Ao rfl Bj rfl rfl f) rfl ⟨?_,k.grownR g (by omega)⟩;rw[<-j.out];rfl
end Go.Proofs.YtlbmnokpiilfpaaGreatDoor
