/- Part Pa10. -/
import Derived.Test.YthdbingomfdeoaaGreatDoorPa9
import Derived.Deep.AppendSrc
import Derived.Shelf.SlSortCmp.NoneTotal
set_option linter.all false
set_option maxRecDepth 100000
set_option maxHeartbeats 100000000
namespace Go.Proofs.YthdbingomfdeoaaGreatDoor
open Tryz Go Go.RowKit
def jY:=@List.map_map
def kE:=@Option.isSome_some
def kz:=@List.map_congr_left
def lA:=@List.eq_nil_iff_forall_not_mem
def m7:=@Nat.mul_div_assoc
variable {f:Act} {ops:Array Oper} {Q:Exit->Act->World->Prop} {m:List Int} {seen xs:List Nat} {l rest:List Oper} {cs news:List Value} {base bytes c cx g i j k n nx:Nat} {o:Oper} {s x:Operand} {A a ax:Option Addr} {r row:Option Nat} {e t ty:TypeId} {z:Value} {w w0 w1 w2:World}
def BG(w:World)(base:Nat)(e:TypeId)(a:Option Addr)(n c:Nat)(cs:List Value):Prop :=
 cs.length=n/\n<=c/\c<=maxLen/\((a=none/\c=0)\/∃ g off cur,a=some ⟨g,off,none⟩/\base<=g/\w.heap[g]?=some (.cells cur e (0,0))/\off+c<=cur.size/\(cur.toList.drop off).take n=cs)
section
variable {w w':World} {base:Nat} {e:TypeId} {a:Option Addr} {n c:Nat} {cs:List Value}
theorem BG.of(h:Own w base e a n c cs):BG w base e a n c cs:=by
 refine⟨h.len,h.cap,h.sl.max,?_⟩;rcases h.2 with⟨b,_⟩|⟨g,f,d,b,i,j,k,m,o,l⟩
 · simp only[eY]at b;exact Or.inl ⟨b.1,b.2.2⟩
 · simp only[eY]at b;obtain⟨rfl,_,rfl⟩:=b;exact Or.inr ⟨g,0,d,rfl,i,j,by omega,by simpa using l⟩
theorem BG.len(h:BG w base e a n c cs):cs.length=n:=h.1
theorem BG.sl(h:BG w base e a n c cs):Sl w a n c cs:=by
 obtain⟨p,l,q,h⟩:=h;refine⟨p,l,q,fun h0 => ?_⟩;rcases h with⟨_,h1⟩|⟨g,b,d,k,_,m,s,r⟩
 · omega
 · refine⟨g,b,k,fun i o => ?_⟩;have j:cs.getD i undef=d.toList.getD (b+i) undef:=by
    rw[<-r];simp[o]
   have f:b+i<d.size:=by omega
   rw[j];simp[World.cell?,m,f]
theorem BG.lt(h:BG w base e a n c cs){k:Nat}(d:blk a=some k):base<=k/\k<w.heap.size:=by
 rcases h.2.2.2 with⟨b,_⟩|⟨g,l,f,b,i,j,_⟩
 · subst b;simp[blk]at d
 · subst b;have:g=k:=by simpa[blk]using d
   subst this;refine⟨i,?_⟩;rcases fL g w.heap.size with h|h
   · exact h
   · simp[gN h]at j
theorem BG.of_block(h:BG w base e a n c cs)(j:∀ k,blk a=some k->w'.heap[k]?=w.heap[k]?):BG w' base e a n c cs:=by
 obtain⟨o,l,p,h⟩:=h;refine⟨o,l,p,?_⟩;rcases h with h|⟨g,f,b,i,d,m,r⟩
 · exact Or.inl h
 · exact Or.inr ⟨g,f,b,i,d,by rw[j g (by subst i;rfl)];exact m,r⟩
theorem BG.ext(h:BG w base e a n c cs)(k:Ext w w'):BG w' base e a n c cs:=h.of_block fun _ b=>k.block (h.lt b).2
theorem BG.kept(h:BG w base e a n c cs)(f:w.grownBy w' row)(d:blk a=none\/blk a≠row):BG w' base e a n c cs :=
 h.of_block fun k b=>f.block k (h.lt b).2 (by
  rcases d with h1|h1
  · rw[h1]at b;cases b
  · rw[<-b];exact h1)
theorem BG.from(h:BG w base e a n c cs){k:Nat}(p:k<=n):BG w base e (if c=k then a else a.map (fun x=>x.add k)) (n-k) (c-k) (cs.drop k):=by
 obtain⟨q,o,r,h⟩:=h;refine⟨by simp;omega,by omega,by omega,?_⟩;rcases h with⟨j,h0⟩|⟨g,i,b,j,d,l,s,m⟩
 · subst j;left;refine⟨by simp,by omega⟩
 · subst j;right;by_cases f:c=k
   · rw[fE f];refine⟨g,i,b,rfl,d,l,by omega,?_⟩;rw[show n-k=0 by omega,gZ,fK (show cs.length<=k by omega)]
   · rw[fl f];refine⟨g,i+k,b,?_,d,l,by omega,?_⟩
     · simp only[i8,Addr.add];by_cases h0:k=0 <;> simp[h0]
     · rw[<-m,List.drop_take,kK]
end
theorem KR{b:Type}(l news:List b)(o n m:Nat)(c:news.length=m)(a:o+n+m<=l.length) :
 ((l.take (o+n) ++ news ++ l.drop (o+n+m)).drop o).take (n+m)=(l.drop o).take n ++ news:=by
 apply iO;intro i;by_cases h1:i<n
 · rw[List.getElem?_take,fE (by omega),iJ,fZ,f4 (by simp;omega),List.getElem?_take,fE (by omega),
    f4 (by simp;omega),List.getElem?_take,fE h1,iJ]
 · by_cases h2:i<n+m
   · rw[List.getElem?_take,fE h2,iJ,fZ,fF (by simp;omega),f4 (by simp;omega),
      fF (by simp;omega)]
     congr 1;simp;omega
   · rw[fi (by simp;omega),fi (by simp;omega)]
section
variable {P:Program} {w:World}
theorem QK{xs:List Value}{m:Nat} 
 (S:P.underlying t=some (.slice e)) (B:AR P e z bytes) (T:z.cells.size=1) (I:BG w base e a n c xs) (C:Sl w A m cx news)
 (h1:∀ u∈news,u.oneCell'=true) (h63:n+m<=maxLen) (x:(n+m)*bytes<=140737488355328) (y:base<=w.heap.size) (Q:0<m) :
 ∃ M V U,(Builtin.append_ #[t,t] ty #[.slice a n c,.slice A m cx]).run P w = .ok (.slice M (n+m) V) U/\BG U base e M (n+m) V (xs ++ news) /\
  w.grownBy U (blk a)/\(blk M=blk a\/blk M=some w.heap.size):=by
 obtain⟨i,X,hz,d,O⟩:=jJ B;obtain⟨G,a0,R,r⟩:=I;obtain⟨b,v,Y,Z⟩:=C.rd Q;subst Y;have l:∀ j u,news[j]?=some u->w.cell? ((⟨b,v,none⟩:Addr).add j)=some u:=by
  intro j u hu;have hj:j<news.length:=by
   rcases fL j news.length with h|h
   · exact h
   · simp[fi h]at hu
  have h2:=Z j (by have:=C.len;omega);have h3:news.getD j undef=u:=by rw[gqq,hu];rfl
  rw[h3]at h2;rw[<-h2];unfold Addr.add;by_cases h0:j=0 <;> simp[h0]
 have f:news.length=m:=C.len;have hf:=run_firstCells_some (P:=P) w i.size m ⟨b,v,none⟩ m cx news (by rw[d];omega) l;by_cases s:n+m<=c
 · rcases r with⟨_,h0⟩|⟨g,o,p,E,W,N,hs,D⟩
   · omega
   · subst E;have L:=run_storeCells_at P g (o+n) e news 0 p w N (by omega) h1;refine⟨some ⟨g,o,none⟩,c,_,?_,⟨by simp[G,f],s,R,Or.inr ⟨g,o,(p.toList.take (o+n) ++ news ++ p.toList.drop (o+n+m)).toArray,rfl,W,?_,?_,?_⟩⟩,Ce w g (p.toList.take (o+n) ++ news ++ p.toList.drop (o+n+m)).toArray,Or.inl rfl⟩
     · have q:(⟨g,o,none⟩:Addr).add (n*i.size)=⟨g,o+n,none⟩:=by
        rw[d,iN];unfold Addr.add;by_cases h0:n=0 <;> simp[h0]
       simp only[gd,f]at L;simp[Builtin.append_,fQ S,sizeOf,typeInfo,X,Builtin.lenOf,s,hf,q,L]
     · simp[World.setRow,iS,N]
     · simp;omega
     · rw[List.toList_toArray,KR _ _ o n m f (by simp;omega),D]
 · have H:(Builtin.firstCells i.size n (.slice a n c)).run P w.drew = .ok xs.toArray w.drew:=by
    rcases r with⟨E,h0⟩|⟨g,o,p,E,W,N,hs,D⟩
    · subst E;have:xs=[]:=fa (by omega);subst this;simp[Builtin.firstCells]
    · subst E;refine run_firstCells_some (P:=P) w.drew i.size n ⟨g,o,none⟩ n c xs (by rw[d];omega) ?_;intro j u hu;have hj:j<xs.length:=by
       rcases fL j xs.length with h|h
       · exact h
       · simp[fi h]at hu
      have q:(⟨g,o,none⟩:Addr).add j=⟨g,o+j,none⟩:=by
       unfold Addr.add;by_cases h0:j=0 <;> simp[h0]
      rw[<-D]at hu;rw[List.getElem?_take,fE (by omega),iJ]at hu;rw[q];rw[Array.getElem?_toList]at hu;show World.cell? w ⟨g,o+j,none⟩=some u;simp only[World.cell?,N];exact hu
   have K:Go.Src P i.size t (.slice (some ⟨b,v,none⟩) m cx) m news w:=Go.Src.ofSlice w S ⟨b,v,none⟩ m cx news (by rw[d];omega) l h1;have F:=growslice_fits (need:=n+m) (old:=c) (bytes:=bytes) (by omega) x;have J:=run_append_grow_src (P:=P) w t t ty e i z S X hz a n c xs H (.slice (some ⟨b,v,none⟩) m cx) m news K (by omega) (by unfold maxLen at h63;omega) (by rw[O];exact F)
   refine⟨_,_,_,J,⟨by simp[G,f],grownCap_ge w _ _ _,grownCap_le_maxLen w _ _ _ h63,Or.inr ⟨w.heap.size,0,(xs ++ news).toArray ++ Builtin.zeroCells z.cells (grownCap w (n+m) c e-(n+m)),rfl,y,?_,?_,?_⟩⟩,?_,Or.inr rfl⟩
   · exact ji w.drew _
   · have:=grownCap_ge w (n+m) c e;simp[size_zeroCells,T,G,f];omega
   · simp only[gm,Array.toList_append];rw[List.take_append_of_le_length (by simp[G,f]),eR (by simp[G,f])]
   · refine⟨rfl,rfl,rfl,by simp,fun k hk _ => ?_⟩;exact Below.heap_alloc w.drew _ k hk
theorem Sr(q:o.guard=none)
 (D:o.op = .call { callee := .builtin .append,args:=#[s,x],argTypes:=#[t,t] })
 {e:TypeId} {z:Value} {bytes base:Nat} {a:Option Addr} {n c:Nat} {xs:List Value} {A:Option Addr} {m B:Nat} {news:List Value}
 (F:P.underlying t=some (.slice e)) (g:AR P e z bytes) (y:z.cells.size=1) (E:f.eval s = .slice a n c) (j:BG w base e a n c xs) (G:f.eval x = .slice A m B) (v:Sl w A m B news)
 (h1:∀ u∈news,u.oneCell'=true) (h63:n+m<=maxLen) (b:(n+m)*bytes<=140737488355328) (d:base<=w.heap.size) (r:0<m)
 (h:∀ i p l,BG l base e i (n+m) p (xs ++ news)->w.grownBy l (blk a)->(blk i=blk a\/blk i=some w.heap.size)->wpList P ops Q rest (f.put o.dst (.slice i (n+m) p)) l) :
 wpList P ops Q (o :: rest) f w:=by
 refine gu q fun K C => ?_;obtain⟨i,p,l,k,h2,h3,h4⟩:=QK (P:=P) (ty:=o.type) F g y j v h1 h63 b d r;unfold Oper.wp execOp;simp only[D,resolve,invoke,builtin,fq,fO,eX,iB,gM,ix,E,G,k];exact C _ _ (h i p l h2 h3 h4)
end
theorem C8:Agg prog 57 6:=⟨by kernel_rfl,by kernel_rfl⟩
theorem BH:FM prog 57 3:=⟨by kernel_rfl,by kernel_rfl,by kernel_rfl⟩
theorem CE{xs:List Int}(s:SlI w a n c xs)(h6:n<=6) :
 Calls prog 24 #[.slice a n c] w fun e x=>e = .returned (AY (An xs))/\Ext w x:=by
 have r:=s.len;have j:=eP r;clear r
 go_enter func24,ntmps24
 go_upto_region 2 with(fail)
 have hA0:Arr ((w.alloc (.cells As.toArray 57)).alloc (.cells As.toArray 57)) w.heap.size 57 As:=(Arr.new w _ As).alloc _;have hA1:Arr ((w.alloc (.cells As.toArray 57)).alloc (.cells As.toArray 57)) (w.heap.size+1) 57 As:=by
  have:=Arr.new (w.alloc (.cells As.toArray 57)) 57 As;simpa using this
 have q:Ext w ((w.alloc (.cells As.toArray 57)).alloc (.cells As.toArray 57)):=((Ext.refl w).alloc _).alloc _;change Code.wp _ _ _ _ ((w.alloc (.cells As.toArray 57)).alloc (.cells As.toArray 57));generalize ((w.alloc (.cells As.toArray 57)).alloc (.cells As.toArray 57))=y at *
 have t:Hid (As.take 0 ++ xs.map (Value.int .i64) ++ As.drop (0+n)=(An xs).map (Value.int .i64)):=by
  have e:xs.length=n:=j.out;show _=_;rw[gZ,iI,fP];unfold An As;rw[fM,jo,List.drop_replicate,e]
 have b:Agg prog 57 ((An xs).map (Value.int .i64)).length:=by
  rw[ft,AV (by rw[j.out];exact h6)];exact C8
 have i:As.length=((An xs).map (Value.int .i64)).length:=by
  rw[ft,AV (by rw[j.out];exact h6)];rfl
 have l:=eP i;clear i
 go_wp2_with(first
  | (refine Rt (sT:=35) rfl rfl underlying35 Cc rfl rfl hA1 (s.ext q) (by omega) (by simp[As];omega) (BN _) ?_;intro z f g;rw[t.out]at f;have d:=hA0.kept g (by simp))
  | (refine CK rfl rfl b rfl f ?_)
  | (refine Aa rfl rfl rfl rfl rfl b d l.out (BN _) ?_;intro A m o))
 refine eZ (v:=AY (An xs)) ?_ rfl ⟨rfl,(q.grown g ?_).grown o ?_⟩
 · exact Aq rfl b rfl m
 · intro k p;simp at p;omega
 · intro k p;simp at p;omega
def mv6(a m:List Int)(k:Nat):List Int:=An (E7 a m k)
theorem Ss{a:List Int}(hp:Ak a=true)(c:m.length=a.length)(b:k<a.length):(mv6 a m k).set (a.getD k 0).toNat (m.getD k 0)=mv6 a m (k+1):=by
 have h0:=Cs hp b;unfold mv6 An;rw[show E7 a m (k+1)=(E7 a m k).set (a.getD k 0).toNat (m.getD k 0) from rfl,gL,List.set_append_left _ _ (by rw[Em];omega)]
theorem QL{a:List Int}(h:m.length<=6):(mv6 a m 0).map (Value.int .i64)=As:=by
 unfold mv6 An As E7;rw[List.length_replicate,List.replicate_append_replicate,jo,Nat.add_sub_cancel' h]
theorem KS{a:List Int}(h:m.length<=6):(mv6 a m k).length=6:=AV (by rw[Em];exact h)
theorem Ps{l:List Int}(h:i<l.length):(l.map (Value.int .i64)).getD i undef = .int .i64 (l.getD i 0):=by
 simp[h]
theorem Pt{l:List Int}(h:i<l.length):(An l).getD i 0=l.getD i 0:=by
 unfold An;simp[f4 h]
theorem Iq{xs:List Int}(t:SlI w a n c xs)(F:Ak xs=true)(I:m.length=n) :
 Calls prog 37 #[.slice a n c,AY (An m)] w fun e O=>e = .returned (AY (An (mvd xs m)))/\Ext w O:=by
 have l:=eP t.len;have h6:n<=6:=by have:=(At F).1;have h:=l.out;omega
 go_enter func37,ntmps37
 go_upto_region 2 with(fail)
 have s:(An m).length=6:=AV (by omega);have C:(((w.alloc (.cells ((An m).map (Value.int .i64)).toArray 57)).alloc (.cells As.toArray 57)).alloc (.cells As.toArray 57)).heap.size=w.heap.size+3:=by simp
 have o:Arr (((w.alloc (.cells ((An m).map (Value.int .i64)).toArray 57)).alloc (.cells As.toArray 57)).alloc (.cells As.toArray 57)) w.heap.size 57 ((An m).map (Value.int .i64)):=((Arr.new w _ _).alloc _).alloc _;have p:Arr (((w.alloc (.cells ((An m).map (Value.int .i64)).toArray 57)).alloc (.cells As.toArray 57)).alloc (.cells As.toArray 57)) (w.heap.size+1) 57 As:=by
  have:=(Arr.new (w.alloc (.cells ((An m).map (Value.int .i64)).toArray 57)) 57 As).alloc (.cells As.toArray 57);simpa using this
 have g:Arr (((w.alloc (.cells ((An m).map (Value.int .i64)).toArray 57)).alloc (.cells As.toArray 57)).alloc (.cells As.toArray 57)) (w.heap.size+2) 57 As:=by
  have:=Arr.new ((w.alloc (.cells ((An m).map (Value.int .i64)).toArray 57)).alloc (.cells As.toArray 57)) 57 As;simpa using this
 have j:Ext w (((w.alloc (.cells ((An m).map (Value.int .i64)).toArray 57)).alloc (.cells As.toArray 57)).alloc (.cells As.toArray 57)):=(((Ext.refl w).alloc _).alloc _).alloc _;change Code.wp _ _ _ _ (((w.alloc (.cells ((An m).map (Value.int .i64)).toArray 57)).alloc (.cells As.toArray 57)).alloc (.cells As.toArray 57));generalize (((w.alloc (.cells ((An m).map (Value.int .i64)).toArray 57)).alloc (.cells As.toArray 57)).alloc (.cells As.toArray 57))=U at *
 have d:=eP I;clear I;go_wp2
 go_loopw[10] (fun i wr=>∃ k:Nat,k<=n/\i = .int .i64 k/\Ext w wr/\Arr wr w.heap.size 57 ((An m).map (Value.int .i64))/\Arr wr (w.heap.size+1) 57 As/\Arr wr (w.heap.size+2) 57 ((mv6 xs m k).map (Value.int .i64))) (fun i _=>n-(intOf i).toNat)
 case atStart=>exact⟨0,f8 _,rfl,j,o,p,by rw[QL (by rw[d.out];exact h6)];exact g⟩
 case round =>
  clear o p g j C;obtain⟨k,H,rfl,j,o,p,g⟩:=hrel;have t:=t.ext j;by_cases b:k<n
  · obtain⟨P,T,rfl,q⟩:=t.at b;have S:=q k b;have r:=Cs F (i:=k) (by have:=l.out;omega);rw[l.out]at r;have G:=Ss (a:=xs) (m:=m) (k:=k) F (by rw[d.out,l.out]) (by rw[l.out];exact b);have L:=o.cell (i:=k) (by rw[ft,s];omega);rw[Ps (by rw[s];omega),Pt (by rw[d.out];exact b)]at L;generalize D:xs.getD k 0=y at *
    generalize E:m.getD k 0=z at *
    obtain⟨W,X⟩:=r;have Q:=g.cell (i:=y.toNat) (by rw[ft,KS (by rw[d.out];exact h6)];omega);have R:=g.frozen y.toNat
    have J:=eP G;have M:(k:Int)<6:=by omega
    have N:y<6:=by omega
    clear q D E G;go_wp2;go_roundw
    case rel =>
     refine⟨k+1,by omega,by go_num,Ext.setCell j (by show _<=w.heap.size+2;omega) _,o.far (by show _≠w.heap.size+2;omega) _,p.far (by show _≠w.heap.size+2;omega) _,?_⟩;have:=g.set y.toNat (.int .i64 z);rw[<-ju,J.out]at this;exact this
    case measure=>simp[intOf];omega
  · have e:k=n:=by omega
    have f:Agg prog 57 ((mv6 xs m k).map (Value.int .i64)).length:=by
     rw[ft,KS (by rw[d.out];exact h6)];exact C8
    have x:Hid (As.length=((mv6 xs m k).map (Value.int .i64)).length):=by
     show _=_;rw[ft,KS (by rw[d.out];exact h6)];rfl
    have K:Hid (An (mvd xs m)=mv6 xs m k):=by
     show _=_;unfold mv6 mvd;rw[d.out,e]
    clear e
    go_wp2_with(first
     | (refine CK rfl rfl f rfl g ?_)
     | (refine Aa rfl rfl rfl rfl rfl f p x.out (BN _) ?_;intro V A B))
    rw[K.out];refine eZ (v:=AY (mv6 xs m k)) ?_ rfl ⟨rfl,j.grown B ?_⟩
    · exact Aq rfl f rfl A
    · intro k H;simp at H;omega
theorem Pu(h:w.grownBy w1 r)(k:w1.grownBy w2 (some g))(d:w.heap.size<=g):w.grownBy w2 r :=
 ⟨k.os.trans h.os,k.tape.trans h.tape,k.output.trans h.output,eW h.size k.size,fun b c a=>by
  rw[k.block b (fG c h.size) (by intro he;simp only[fc]at he;omega),h.block b c a]⟩
structure Tot(w:World)(a:Option Addr)(base:Nat)(wr:World)(a':Option Addr)(n c:Nat)(zs:List Nat):Prop where
 grown:w.grownBy wr (blk a)
 own:Own wr base 101 a' n c (zs.map (Bk .u64))
 src:blk a'=blk a\/∃ g,blk a'=some g/\w.heap.size<=g
 bnd:W.bnd 18446744073709551616 zs
section
variable {w wr w2:World} {a a' a2:Option Addr} {base n c n2 c2:Nat} {zs zs2:List Nat}
theorem Tot.len(h:Tot w a base wr a' n c zs):zs.length=n:=by have:=h.own.len;simpa using this
theorem Tot.step(h:Tot w a base wr a' n c zs)(b:wr.grownBy w2 (blk a'))(j:Own w2 base 101 a2 n2 c2 (zs2.map (Bk .u64)))(k:blk a2=blk a'\/blk a2=some wr.heap.size)(i:W.bnd 18446744073709551616 zs2):Tot w a base w2 a2 n2 c2 zs2:=by
 have d:w.grownBy w2 (blk a):=by
  rcases h.src with e|⟨g,e,f⟩
  · rw[e]at b;exact Ex h.grown b
  · rw[e]at b;exact Pu h.grown b f
 refine⟨d,j,?_,i⟩;rcases k with e|e
 · rw[e];exact h.src
 · exact Or.inr ⟨_,e,h.grown.size⟩
theorem Tot.ext(h:Tot w a base wr a' n c zs)(e:Ext wr w2):Tot w a base w2 a' n c zs:=⟨CW h.grown e,h.own.ext e,h.src,h.bnd⟩
theorem Tot.slice(h:Tot w a base wr a' n c zs)(d:SlN .u64 w ax nx cx xs)(b:blk ax≠blk a):SlN .u64 wr ax nx cx xs:=d.kept h.grown (Or.inr b)
theorem Tot.sep(h:Tot w a base wr a' n c zs)(i:SlN .u64 w ax nx cx xs)(h0:0<nx)(d:blk ax≠blk a){g:Nat}(f:blk a'=some g):blk ax≠some g:=by
 rcases h.src with e|⟨j,e,b⟩
 · rw[<-f,e];exact d
 · rw[f]at e;simp only[fc]at e;subst e;exact i.fresh b h0
end
def C5(j:Nat)(o:Oper):Oper:={ o with after:=o.after.push { on:=j,ground := .data } }
theorem GZ(j:Nat)(o:Oper)(d:Operand->Value):execOp d (C5 j o)=execOp d o:=by
 obtain⟨e,f,c,g,a,b⟩:=o;cases f <;> rfl
section
variable {P:Program} {Q:Exit->Act->World->Prop}
theorem FP(l:List Oper)(m j:Nat):(l.modify m (C5 0)).toArray[j]?=(l.toArray[j]?).map (fun o=>if m=j then C5 0 o else o):=by
 simp only[List.getElem?_toArray,List.getElem?_modify];cases l[j]? with
 | none=>rfl
 | some o=>by_cases h:m=j <;> simp[h]
theorem Fu{m:Nat}{L:Array Bool}(h0:L.getD 0 false=true):j∈Region.ready .any (l.modify m (C5 0)).toArray L<->j∈Region.ready .any l.toArray L:=by
 rw[l6,l6,FP];constructor
 · rintro⟨h1,o,b,a⟩;cases d:l.toArray[j]? with
   | none=>rw[d]at b;cases b
   | some o' =>
    rw[d]at b;simp only[i8,fc]at b;refine⟨h1,o',rfl,fun e he c=>a e ?_ c⟩;rw[<-b];split
    · exact Array.mem_push_of_mem _ he
    · exact he
 · rintro⟨h1,o,b,a⟩;rw[b];refine⟨h1,_,rfl,fun e he c => ?_⟩;split at he
   · rcases Array.mem_push.1 he with he|he
     · exact a e he c
     · rw[he];exact h0
   · exact a e he c
theorem KT(l:List Oper)(m:Nat)(t:Array Value):yielded (l.modify m (C5 0)).toArray t=yielded l.toArray t:=by
 funext g;unfold yielded;rw[FP];cases l.toArray[g]? with
 | none=>rfl
 | some o=>by_cases h:m=g <;> simp[h,C5]
theorem Pw{m:Nat}{K:Act->World->Prop}{a:Act}(h:wpOp P (l.modify m (C5 0)).toArray Q i K a w):wpOp P l.toArray Q i K a w:=by
 unfold wpOp at *
 rw[FP]at h;cases c:l.toArray[i]? with
 | none=>rw[c]at h;exact h
 | some o =>
  rw[c]at h;simp only[i8,KT]at h;by_cases b:m=i
  · simp only[fE b]at h;have d:Region.wanted (C5 0 o) (yielded l.toArray a.tmps)=Region.wanted o (yielded l.toArray a.tmps):=rfl;have e:Oper.wp P (C5 0 o) a w K Q=Oper.wp P o a w K Q:=by unfold Oper.wp;rw[GZ];rfl
    have f:Oper.asks P (C5 0 o) a w=Oper.asks P o a w:=by unfold Oper.asks;rw[GZ]
    rw[d,e,f]at h;exact h
  · simp only[fl b]at h;exact h
theorem Ir{l:List Oper}{m:Nat}:∀ (f:Nat) (L:Array Bool) (a:Act) (w:World),L.getD 0 false=true->wpAny P .any (l.modify m (C5 0)).toArray Q f L a w->wpAny P .any l.toArray Q f L a w
 | 0,L,a,w,h0,h=>by
  refine⟨?_,h.2⟩;refine lA.2 fun j b => ?_;have:=(Fu (m:=m) h0).2 b;rw[h.1]at this;cases this
 | f+1,L,a,w,h0,h=>by
  refine⟨fun g=>h.1 (lA.2 fun j b => ?_),fun i e => ?_⟩
  · have:=(Fu h0).1 b;rw[g]at this;cases this
  · exact wpOp_mono (fun c k d=>Ir f _ c k (kh h0) d) (Pw (h.2 i ((Fu h0).2 e)))
def UR:Op->Bool | .select _ _=>true | _=>false
def Of(ops:Array Oper):Bool :=
 (match ops[0]? with
  | some o=>(match o.op with | .move _=>true | _=>false) && o.guard.isNone && o.after.isEmpty && (List.range ops.size).all (fun j=>j == 0 || (match ops[j]? with | some oj=>oj.after.any (fun e=>Region.binds .any e && e.on == 0) || o.apart ops oj | none=>true))
  | none=>false) && (List.range ops.size).all (fun j=>match ops[j]? with | some o => !UR o.op | none=>true)
theorem Dl{id:Nat}{a:Act}(m:Nat)(J:m≠0)(Z:P.follows .mixedOrders=true)(C:World->Prop)(n:List Hd)
 (L:Dt (l.modify m (C5 0)).toArray (n.map (·.cons)) a.tmps.size=true) (f:Of l.toArray=true)
 (W:∀ c a w d v,Q (.panic c) (Act.put a d v) w->Q (.panic c) a w)
 (E:∀ w p,Ext w p->C w->C p) (V:C w.drew) (O:IP n)
 (B:Nw P C (l.modify m (C5 0)).toArray n a 0 (l.modify m (C5 0)) n)
 (r:∀ p,C p->F7 p (fun U=>wpList P (l.modify m (C5 0)).toArray Q ((l.modify m (C5 0)).drop n.length) U p) (l.modify m (C5 0)) n a):(Code.region id l.toArray true).wp P Q a w:=by
 have h:=Gi (P:=P) (Q:=Q) C n L E V O B r;refine wp_region_any Z ?_;unfold Of at f;simp only[gJ]at f;obtain⟨h1,h2⟩:=f;cases h0:l.toArray[0]? with
 | none=>rw[h0]at h1;cases h1
 | some o =>
  rw[h0]at h1;simp only[gJ]at h1;obtain⟨⟨⟨z,I⟩,F⟩,G⟩:=h1;obtain⟨x,R⟩:∃ x,o.op = .move x:=by
   cases M:o.op <;> rw[M]at z <;> first | exact⟨_,rfl⟩ | cases z
  have s:o.guard=none:=by simpa using I
  have q:o.after=#[]:=by simpa using F
  have a0:0<l.toArray.size:=(gr.1 h0).1;have y:(l.modify m (C5 0)).toArray.size=l.toArray.size:=by simp
  rw[y]at h;obtain⟨k,Y⟩:∃ k,l.toArray.size=k+1:=⟨l.toArray.size-1,by omega⟩;rw[Y]at h |-;have hy:Yields P l.toArray o (a.eval x) a:=Or.inl ⟨by simp[Region.wanted,s],fun w=>by simp only[execOp,R];rfl⟩;have hr:0∈Region.ready .any l.toArray (Array.replicate (k+1) false):=by
   rw[l6];refine⟨by simp,o,h0,fun e he => ?_⟩;rw[q]at he;simp at he
  have D:∀ (j:Nat) (o:Oper) S b,l.toArray[j]?=some o->o.op ≠ .select S b:=by
   intro j oj S b t X;have g:j<l.toArray.size:=(gr.1 t).1;have:=il.1 h2 j (iA.2 g);rw[t]at this;simp[X,UR]at this
  refine wpAny_first (i:=0) (oi:=o) (v:=a.eval x) h0 D (fun c a w=>W c a w _ _) k _ a _ ?_ hr hy ?_
  · intro j oj t K _ A;have g:j<l.toArray.size:=(gr.1 t).1;have:=il.1 G j (iA.2 g);rw[t]at this;simp only[kC,lh]at this;rcases this with h|h|h
    · exact absurd h K
    · obtain⟨e,he,H⟩:=Array.any_eq_true'.1 h;simp only[gJ,lh]at H;exact absurd H.2 (A e he H.1)
    · exact h
  · refine Ir (m:=m) k _ _ _ (by simp) ?_;have T:(l.modify m (C5 0)).toArray[0]?=some o:=by rw[FP,h0];simp[J]
    have N:0∈Region.ready .any (l.modify m (C5 0)).toArray (Array.replicate (k+1) false):=by
     rw[l6];refine⟨by simp,o,T,fun e he => ?_⟩;rw[q]at he;simp at he
    have h3:=h.2 0 N;unfold wpOp at h3;rw[T]at h3;simp only at h3;rw[fE (by simp[Region.wanted,s])]at h3;rcases h3 with h3|h3
    · simp only[Oper.wp,execOp,R]at h3;exact h3
    · exfalso;have:=h3.1;simp only[Oper.asks,execOp,R]at this;exact absurd (show noRoomEvent∈(#[]:Array Event) from this.1) (by simp)
end
structure Kp(S:Nat->Prop)(w w':World):Prop where
 os:w'.os=w.os
 tape:w'.tape=w.tape
 output:w'.output=w.output
 size:w.heap.size<=w'.heap.size
 block:∀ b,b<w.heap.size->¬ S b->w'.heap[b]?=w.heap[b]?
section
variable {S S':Nat->Prop} {w w1 w2:World}
theorem Kp.trans(h:Kp S w w1)(k:Kp S' w1 w2)(d:∀ b,b<w.heap.size->S' b->S b):Kp S w w2 :=
 ⟨k.os.trans h.os,k.tape.trans h.tape,k.output.trans h.output,eW h.size k.size,fun b a c=>by
  rw[k.block b (fG a h.size) (fun x=>c (d b a x)),h.block b a c]⟩
theorem Kp.ext(h0:Ext w0 w)(h:Kp S w w1)(c:∀ b,S b->w0.heap.size<=b):Ext w0 w1 :=
 ⟨h.os.trans h0.os,h.tape.trans h0.tape,h.output.trans h0.output,eW h0.size h.size,fun b a=>by
  rw[h.block b (fG a h0.size) (fun x=>by have:=c b x;omega),h0.block a]⟩
theorem Kp.mono(h:Kp S w w1)(c:∀ b,b<w.heap.size->S b->S' b):Kp S' w w1:=⟨h.os,h.tape,h.output,h.size,fun b a d=>h.block b a (fun x=>d (c b a x))⟩
theorem Kp.cell(h:Kp S w w1){p:Addr}{v:Value}(hp:w.cell? p=some v)(a:¬ S p.block):w1.cell? p=some v:=by
 rw[ir (w:=w) (h.block _ (gF w p hp) a),hp]
theorem Kp.arr(h:Kp S w w1)(a:Arr w g t cs)(b:¬ S g):Arr w1 g t cs:=(h.block g a.lt b).trans a
theorem Kp.own(h:Kp S w w1)(l:Own w base e a n c cs)(o:∀ g,blk a=some g->¬ S g):Own w1 base e a n c cs:=by
 obtain⟨h1,h2⟩:=l;refine⟨h1,?_⟩;rcases h2 with h2|⟨g,b,d,j,m,k,r⟩
 · exact Or.inl h2
 · refine Or.inr ⟨g,b,d,j,m,?_,r⟩;have i:g<w.heap.size:=by
    rcases fL g w.heap.size with h|h
    · exact h
    · simp[gN h]at k
   have f:blk a=some g:=by
    simp only[eY]at j;rw[j.1];rfl
   rw[h.block g i (o g f),k]
theorem Kp.wd{x:Nat}(h:Kp S w w1)(j:Wd w a n c x)(f:0<n->∀ g,blk a=some g->¬ S g):Wd w1 a n c x:=by
 obtain⟨k,h1,h2⟩:=j;refine⟨k,?_,h2⟩;refine⟨Sl.len h1,Sl.cap h1,Sl.max h1,fun h0 => ?_⟩;obtain⟨b,o,rfl,d⟩:=Sl.rd h1 h0;exact⟨b,o,rfl,fun i e=>h.cell (d i e) (f h0 b rfl)⟩
end
theorem AB.noU{r:Nat}{m:List (List Int×Value)}(h:AB w r m):NoU w r:=by
 intro j i e;simp[World.cell?,h.obj]at e
theorem AF.noU{a r:Nat}(h:AF w a r n seen):NoU w a:=by
 intro j i e;unfold AF at h;simp[World.cell?,h]at e
theorem JJ.keptU{w i:World}{cs:List Value}{q:Rat}{g:Nat}(h:JJ w cs q)(e:NoU w g)(f:w.grownBy i (some g)):JJ i cs q:=by
 obtain⟨s,a,n,c,b,m,d,h3,h4,h5,h6⟩:=h;exact⟨s,a,n,c,b,m,d,h3,h4,h5.keptU e f,h6.keptU e f⟩
theorem Lz.keptU{w a:World}{v:Value}{q:Rat}{g:Nat}(h:Lz w v q)(c:NoU w g)(d:w.grownBy a (some g)):Lz a v q:=by
 obtain⟨b,h1,h2⟩:=h;exact⟨b,h1,h2.keptU c d⟩
theorem C3.len{l:List Pl.Tm}(h:C3 w a n c l):l.length=n:=by
 obtain⟨b,h1,h2,h3⟩:=h;exact h2
end Go.Proofs.YthdbingomfdeoaaGreatDoor
namespace Go.Proofs.YthdbingomfdeoaaGreatDoor
open Go Go.RowKit Go.Sort
def EV:Type:={ p:List Value×Pl.Tm // (∃ s a n c b m d,p.1=AN p.2.1 s a n c b m d)/\p.2.1.length=6/\∀ x∈p.2.1,0<=x/\x<=1099511627776 }
def EV.enc(v:EV):List Value:=v.1.1
def EV.tm(v:EV):Pl.Tm:=v.1.2
instance : Inhabited EV:=⟨⟨(AN ze false none 0 0 none 0 0,(ze,0)),⟨false,none,0,0,none,0,0,rfl⟩,rfl,by simp[ze]⟩⟩
theorem EV.len(v:EV):v.enc.length=10:=by
 obtain⟨⟨r,t⟩,⟨s,a,n,c,b,m,d,h⟩,h6,_⟩:=v;show r.length=10;rw[show r=_ from h,EL,h6]
theorem EV.one(v:EV):∀ u∈v.enc,u.oneCell'=true:=by
 obtain⟨⟨r,t⟩,⟨s,a,n,c,b,m,d,h⟩,h6,_⟩:=v;intro u hu;have:r=AN t.1 s a n c b m d:=h;subst this;exact BR u hu
theorem EV.nu(v:EV):∀ u∈v.enc,∀ i,u ≠ .int .u64 i:=by
 obtain⟨⟨r,t⟩,⟨s,a,n,c,b,m,d,h⟩,h6,_⟩:=v;intro u hu;have:r=AN t.1 s a n c b m d:=h;subst this;exact CD u hu
theorem EV.six(v:EV):v.tm.1.length=6:=v.2.2.1
def QM(l:List Pl.Tm):Prop:=∀ t∈l,t.1.length=6/\∀ x∈t.1,0<=x/\x<=1099511627776
end Go.Proofs.YthdbingomfdeoaaGreatDoor
namespace Go.Proofs.YthdbingomfdeoaaGreatDoor
open Tryz Go Go.RowKit
variable {f:Act} {ops:Array Oper} {Q:Exit->Act->World->Prop} {va vars:Int} {rest:List Oper} {c n:Nat} {o:Oper} {i x:Operand} {a:Option Addr} {q:Rat} {et t:TypeId} {w:World}
def LP(q:Rat):Prop:=∀ (w:World) (v:Value),BE w->Lz w v q->Calls prog 62 #[v] w fun e w'=>e = .returned (.string ⟨(txt q).toArray⟩)/\Ext w w'
def B4(vars:Int)(a:Option Addr)(n c:Nat):List Value:=[.int .i64 vars,.slice a n c]
theorem Dm(vars:Int)(a:Option Addr)(n c:Nat):∀ v∈B4 vars a n c,v.oneCell'=true:=by
 intro v b;simp only[B4,fS,ia,jL]at b;rcases b with rfl|rfl <;> rfl
section
variable {P:Program} {w:World}
theorem TW(c:o.guard=none)(l:o.op = .index t x i)(d:FM P t et)
 {cs:Array Value} {k:Nat} {v:Value} (p:f.eval x = .agg cs) (hi:f.eval i = .int .i64 (k:Int)) (h6:k<6) (j:cs[k]?=some v) (e:wpList P ops Q rest (f.put o.dst v) w):wpList P ops Q (o :: rest) f w:=by
 refine gu c fun K b => ?_;obtain⟨q,a,n⟩:∃ i,P.info? et=some i/\i.size=1:=by
  have:=d.size;cases h:P.info? et with
  | none=>rw[h]at this;cases this
  | some i=>rw[h]at this;exact⟨i,rfl,by simpa using this⟩
 have m:(Instr.index t (.agg cs) (.int .i64 (k:Int))).run P w = .ok v w:=by
  have g:(0:Int)<=(k:Int)/\(k:Int)<((6:Nat):Int):=by omega
  simp only[Instr.index,asIntOf,fq,fO,eX,fQ d.arr];rw[fE g];simp[sizeOf,typeInfo,a,n,Ax w d cs k v j]
 unfold Oper.wp execOp;simp only[l,p,hi,fq,m,eX,fO,Oper.upon];exact b _ _ e
end
open Classical in
noncomputable def rdP (vars:Int) (ts:List Tx):Option (List Pl.Tm):=if ts.length<=4096/\∀ t r,ts=t :: r->B3 t.2=true then rdWF vars ts else none
theorem Py{ts:List Tx}(Y:BE w)(h:CS w a n c ts)(S:∀ t∈ts,t.1.length<=570) :
 Calls prog 31 #[.agg #[.int .i64 vars,.slice a n c]] w (Vd w (rdP vars ts)):=by
 have g:=h.len;have d:=fun(J:World) (O:Ext w J) (Z:n<=4096)=>qh (MO (vars:=vars) (Y.ext O) (h.ext O) S Z);have A:¬ n<=4096->rdP vars ts=none:=fun h=>by unfold rdP;exact fl (fun h'=>h (by omega))
 obtain⟨V,P,_,F⟩:=h;have a0:=P.le
 go_enter func31,ntmps31
 go_upto_region 1 with(fail)
 refine AK ?_;intro w0 x v H;have p0:=v.c 0 rfl;have U:=v.c 1 rfl;clear v H S;by_cases Q:4096<n
 · have m:=qh (A (by omega));go_wp2
   go_ret2
   rw[m.out];exact⟨none,0,0,rfl,x,C3.nil _⟩
 · have d:=d w0 x (by omega);clear A
   go_wp2_with fail
   refine d.out.mono ?_;rintro e I ⟨L,T,N,rfl,z,k⟩;have U:=z.cell U;have i:=x.trans z;cases b:rdWF vars ts with
   | none =>
    have m:Hid (rdP vars ts=none):=qh (by unfold rdP;rw[b];split <;> rfl);rw[b]at k;clear d b;go_wp2
    go_ret2
    rw[m.out];exact⟨none,0,0,rfl,i,C3.nil _⟩
   | some l =>
    rw[b]at k;simp only[fC,kE]at k |-;rcases fj n with h0|h0
    · have m:Hid (rdP vars ts=some l):=qh (by
       unfold rdP
       rw[b,fE ⟨by omega,fun t r e=>by rw[e]at g;simp at g;omega⟩])
      have E:¬ ((0:Int)<(n:Int)):=by omega
      clear d b;go_wp2
      go_ret2
      rw[m.out];exact⟨L,T,N,rfl,i,k⟩
    · have E:(0:Int)<(n:Int):=by omega
      obtain⟨M,B,rfl,C⟩:=(P.ext i).rd h0;obtain⟨s,W,nx,X,q,_,G⟩:=F 0 h0;have o:=C 0 h0 1 (by omega);rw[q]at o;have R:I.cell? ⟨M,B+1,none⟩=some (.slice W nx X):=o;have f:=C 0 h0 0 (by omega);rw[q]at f;have D:I.cell? ⟨M,B,none⟩=some (.string s):=by simpa using f
      have p:=fun(J:World) (F:Ext I J)=>qh (NZ ((G.ext i).ext F));have K:Hid (∀ t r,ts=t :: r->t.2=(ts.getD 0 tm0).2):=qh (fun t r e=>by rw[e];rfl);generalize (ts.getD 0 tm0).2=xs at *
      cases j:B3 xs with
      | true =>
       have m:Hid (rdP vars ts=some l):=qh (by
        unfold rdP
        rw[b,fE ⟨by omega,fun t r e=>by rw[K.out t r e];exact j⟩])
       rw[j]at p;clear d b j C o f
       go_wp2_with fail
       refine(p _ (Ext.refl _)).out.mono ?_;rintro e w2 ⟨rfl,rfl⟩;go_wp2
       go_ret2
       rw[m.out];exact⟨L,T,N,rfl,i,k⟩
      | false =>
       have m:Hid (rdP vars ts=none):=qh (by
        unfold rdP;rw[fl];rintro⟨_,h2⟩;cases y:ts with
        | nil=>rw[y]at g;simp at g;omega
        | cons t r =>
         have h3:=h2 t r y;rw[K.out t r y,j]at h3
         cases h3)
       rw[j]at p;clear d b j C o f
       go_wp2_with fail
       refine(p _ (Ext.refl _)).out.mono ?_;rintro e w2 ⟨rfl,rfl⟩;go_wp2
       go_ret2
       rw[m.out];exact⟨none,0,0,rfl,i,C3.nil _⟩
theorem M3{ts:List Tx}(l:BE w)(h:CS w a n c ts)(m:∀ t∈ts,t.1.length<=570) :
 Calls prog 12 #[.agg #[.int .i64 vars,.slice a n c]] w fun e p=>e = .returned (.bool (rdP vars ts).isSome)/\Ext w p:=by
 have f:=fun(q:World) (j:Ext w q)=>qh (Py (vars:=vars) (l.ext j) (h.ext j) m);obtain⟨o,k⟩:∃ o,rdP vars ts=o:=⟨_,rfl⟩;rw[k]at f |-;clear k
 go_enter func12,ntmps12
 go_upto_region 1 with(fail)
 refine AK ?_;intro z d b i;have x:=b.c 0 rfl;have y:=b.c 1 rfl;clear b i
 go_wp2_with fail
 refine(f _ d).out.mono ?_;rintro e A ⟨r,v,s,rfl,g,_⟩;go_wp2;go_ret;exact⟨rfl,d.trans g⟩
structure US where
 p:Nat
 qa:Option Nat
 qb:Option Nat
 z:Int
def US.has(f:US)(b:Nat):Prop:=b=f.p\/f.qa=some b\/f.qb=some b
theorem Pz(a d:Nat):a∣a*(d/Nat.gcd a d):=Nat.dvd_mul_right _ _
theorem PA(a d:Nat):d∣a*(d/Nat.gcd a d):=by
 have h1:a*(d/Nat.gcd a d)=a/Nat.gcd a d*d:=by
  rw[<-m7 _ (jz a d),f9 a d,m7 _ (jh a d),f9]
 rw[h1];exact j5 _ _
theorem LQ:∀ (l:List Rat) (a:Nat),a∣l.foldl (fun a q=>a*(q.den/Nat.gcd a q.den)) a/\∀ q∈l,q.den∣l.foldl (fun a q=>a*(q.den/Nat.gcd a q.den)) a
 | [],a=>⟨Nat.dvd_refl _,by simp⟩
 | q :: r,a=>by
  have ih:=LQ r (a*(q.den/Nat.gcd a q.den));refine⟨jg (Pz a q.den) ih.1,fun p hp => ?_⟩;rcases fS.1 hp with rfl|hp
  · exact jg (PA a p.den) ih.1
  · exact ih.2 p hp
theorem QN{l:List Rat}(h:q∈l):q.den∣JL l:=(LQ l 1).2 q h
structure Og(p:List Pl.Tm):Prop where
 atE:∀ e,Pl.coef p e≠0->LP (Pl.coef p e)/\e.length=6/\∀ x∈e,0<=x/\x<=1099511627776
 len:p.length<=1000000
theorem LR{out p:List Pl.Tm}(b:Pl.Nrm out)(a:∀ e,Pl.coef out e=Pl.coef p e){t:Pl.Tm}(c:t∈out):Pl.coef p t.1=t.2:=by rw[<-a];exact Pl.coef_mem b.nodup c
theorem Og.out{out p:List Pl.Tm}(h:Og p)(c:Pl.Nrm out)(d:∀ e,Pl.coef out e=Pl.coef p e):QM out/\(∀ t∈out,LP t.2)/\out.length<=1000000:=by
 have b:∀ t∈out,Pl.coef p t.1≠0:=fun t a=>by rw[LR c d a];exact c.nz t a
 refine⟨fun t a=>(h.atE t.1 (b t a)).2,fun t a => ?_,?_⟩
 · have:=(h.atE t.1 (b t a)).1;rw[LR c d a]at this;exact this
 · refine eW ?_ h.len
   have h1:=Pl.nodup_le (out.map (·.1)) (p.map (·.1)) c.nodup (fun e he=>by
    obtain⟨t,a,rfl⟩:=fh.1 he;obtain⟨s,f,e⟩:=Pl.coef_present (b t a);rw[<-e]
    exact gn f)
   simpa using h1
theorem Is(t:Pl.Tm)(h6:t.1.length=6):∀ (l:List Pl.Tm),(∀ s∈l,s.1.length=6)->Pl.desc l->∃ a,a.Perm (t :: l)/\Pl.desc a
 | [],_,_=>⟨[t],kL _,jP _ _⟩
 | s :: r,hl,hd=>by
  have hd2:=gI.1 hd;by_cases h:0<=Pl.ordE t.1 s.1
  · refine⟨t :: s :: r,kL _,gI.2 ⟨fun u hu => ?_,hd⟩⟩;rcases fS.1 hu with rfl|hu
    · exact h
    · have h1:=hd2.1 u hu;by_cases h2:Pl.ordE t.1 s.1=0
      · rw[Pl.ordE_eq (by rw[h6,hl s (by simp)]) h2];exact h1
      · by_cases h3:Pl.ordE s.1 u.1=0
        · rw[<-Pl.ordE_eq (by rw[hl s (by simp),hl u (by simp[hu])]) h3];exact h
        · exact jf (Pl.ordE_trans (b:=s.1) (by omega) (by omega))
  · obtain⟨a,h1,h2⟩:=Is t h6 r (fun u hu=>hl u (by simp[hu])) hd2.2;refine⟨s :: a,(List.Perm.cons s h1).trans (List.Perm.swap t s r),gI.2 ⟨fun u hu => ?_,h2⟩⟩;rcases fS.1 (h1.mem_iff.1 hu)with rfl|hu
    · have:=Pl.ordE_anti s.1 u.1;omega
    · exact hd2.1 u hu
theorem JX:∀ (l:List Pl.Tm),(∀ s∈l,s.1.length=6)->∃ b,b.Perm l/\Pl.desc b
 | [],_=>⟨[],kL _,List.Pairwise.nil⟩
 | t :: r,h=>by
  obtain⟨l1,h1,h2⟩:=JX r (fun s a=>h s (by simp[a]));obtain⟨c,h3,h4⟩:=Is t (h t (by simp)) l1 (fun s a=>h s (by simp[h1.mem_iff.1 a])) h2;exact⟨c,h3.trans (List.Perm.cons t h1),h4⟩
noncomputable def cnP (p:List Pl.Tm):List Pl.Tm:=Classical.epsilon (fun l=>Pl.Canon 6 l/\∀ e,Pl.coef l e=Pl.coef p e)
theorem TX{p l:List Pl.Tm}(h:Pl.Canon 6 l)(a:∀ e,Pl.coef l e=Pl.coef p e):cnP p=l:=by
 have h1:Pl.Canon 6 (cnP p)/\∀ e,Pl.coef (cnP p) e=Pl.coef p e:=kU (p:=fun l=>Pl.Canon 6 l/\∀ e,Pl.coef l e=Pl.coef p e) ⟨l,h,a⟩;exact Pl.canon_ext h1.1 h (fun e=>by rw[h1.2,a])
theorem M4{p out l:List Pl.Tm}(d:Pl.Nrm out)(b:∀ e,Pl.coef out e=Pl.coef p e)(hp:l.Perm out)(c:Pl.desc l):cnP p=l:=by
 have a:=d.perm hp.symm;exact TX (Pl.canon_of_sorted a.len a.nz c a.nodup) (fun e=>by rw[Pl.coef_perm hp,b])
theorem FQ{b:List Tx}{a:List Pl.Tm}(h:rdP va b=some a):0<=va/\va<=6:=by
 unfold rdP at h;split at h
 · unfold rdWF at h;split at h
   · rename_i h1;exact⟨h1.1,h1.2.1⟩
   · cases h
 · cases h
structure TG(p:List Pl.Tm):Prop where
 pre:∀ a s,a ++ s=p->∀ e,Pl.RB 2400 (Pl.coef a e)
 each:∀ t∈p,Pl.RB 2400 t.2
 fits:Og p
end Go.Proofs.YthdbingomfdeoaaGreatDoor
namespace Go.Proofs.YthdbingomfdeoaaGreatDoor.Pl
def grt(l:List Tm)(v:Nat):Nat:=l.foldl (fun a t=>max a (t.1.getD v 0).toNat) 0
def pwz(x:Rat)(g e:Nat):Int:=x.num^e*(x.den:Int)^(g-e)
def zev(d:Nat)(g:Nat->Nat)(pt:List Rat)(t:Tm):Nat->Int
 | 0=>zsc t.2 d
 | k+1=>zev d g pt t k*pwz (pt.getD k 0) (g k) (t.1.getD k 0).toNat
def dev(d:Nat)(g:Nat->Nat)(pt:List Rat):Nat->Nat
 | 0=>d
 | k+1=>dev d g pt k*(pt.getD k 0).den^(g k)
def zsum(f:Tm->Int)(l:List Tm):Int:=l.foldl (fun a t=>a+f t) 0
end Go.Proofs.YthdbingomfdeoaaGreatDoor.Pl
namespace Go.Proofs.YthdbingomfdeoaaGreatDoor
open Go Go.RowKit
variable {B v va vars:Int} {b l xs ys:List Int} {D E Y Z c d k m n nt:Nat} {a:Option Addr} {p q:Rat} {w:World}
structure EvB(l:List Pl.Tm)(pt:List Rat):Prop where
 co:∀ t∈l,Pl.RB 2400 t.2
 po:∀ q∈pt,Pl.RB 2400 q
 ex:∀ t∈l,∀ e∈t.1,0<=e/\e<=1048576
 lc:∀ k,JL ((l.map (·.2)).take k)<P2 9600
 pn:∀ v,v<pt.length->∀ e,e<=Pl.grt l v->(pt.getD v 0).num.natAbs^e<P2 1200
 pd:∀ v,v<pt.length->∀ e,e<=Pl.grt l v->(pt.getD v 0).den^e<P2 1200
 ze:∀ t∈l,∀ k,k<=pt.length->(Pl.zev (JL (l.map (·.2))) (Pl.grt l) pt t k).natAbs<P2 9600
 de:∀ k,k<=pt.length->Pl.dev (JL (l.map (·.2))) (Pl.grt l) pt k<P2 9600
 su:(Pl.zsum (fun t=>Pl.zev (JL (l.map (·.2))) (Pl.grt l) pt t pt.length) l).natAbs<P2 9600
theorem Oh(l:List Int):(An l).sum=l.sum:=by
 unfold An;rw[List.sum_append];have:∀ k:Nat,(List.replicate k (0:Int)).sum=0:=by
  intro k
  induction k with
  | zero=>rfl
  | succ k ih=>rw[jH,kj,ih];rfl
 rw[this];omega
theorem M5(k:Nat)(a b:List Int):Pl.ordR (List.replicate k 0 ++ a) (List.replicate k 0 ++ b)=Pl.ordR a b:=by
 induction k with
 | zero=>rfl
 | succ k ih =>
  rw[jH,iT,iT];show(if(0:Int)=0 then _ else _)=_;rw[fE rfl,ih]
theorem QO{a:List Int}(h:a.length=b.length):Pl.ordE (An a) (An b)=Pl.ordE a b:=by
 unfold Pl.ordE;rw[Oh,Oh];have c:Pl.ordR (An a).reverse (An b).reverse=Pl.ordR a.reverse b.reverse:=by
  unfold An;rw[List.reverse_append,List.reverse_append,List.reverse_replicate,List.reverse_replicate,h,M5]
 rw[c]
theorem A6{t:Tx}{m:Pl.Tm}(h:Ay vars t=some m):AZ t.1=some m.2/\m.2≠0/\(t.2.length:Int)=vars/\(∀ e∈t.2,0<=e/\e<=1048576)/\m.1=An t.2:=by
 unfold Ay at h;split at h
 · cases h
 · rename_i q b;split at h
   · rename_i a;cases h;exact⟨b,a.1,a.2.1,a.2.2,rfl⟩
   · cases h
theorem CT{ts:List Tx}{l:List Pl.Tm}(h:rdP vars ts=some l):(0<=vars/\vars<=6)/\ts.length<=4096/\(∀ t r,ts=t :: r->B3 t.2=true)/\okT vars ts ts.length/\l=ts.map (fun t=>(Ay vars t).getD z6):=by
 unfold rdP at h;split at h
 · rename_i h1;unfold rdWF at h;split at h
   · rename_i h2;cases h;exact⟨⟨h2.1,h2.2.1⟩,h1.1,h1.2,h2.2.2,rfl⟩
   · cases h
 · cases h
theorem KU{ts:List Tx}{l:List Pl.Tm}(h:rdP vars ts=some l){i:Nat}(hi:i<ts.length):Ay vars (ts.getD i tm0)=some (l.getD i ([],0)):=by
 obtain⟨_,_,_,b,rfl⟩:=CT h;have h1:=b.1 i hi;rw[gD]at h1;obtain⟨m,a⟩:=h1;have h2:ts.getD i tm0=ts[i]:=by simp[hi]
 rw[h2]at a |-;rw[a];simp[hi,a]
theorem FR{ts:List Tx}{l:List Pl.Tm}(h:rdP vars ts=some l):l.length=ts.length:=by
 obtain⟨_,_,_,a,rfl⟩:=CT h;simp
theorem FT{ts:List Tx}{l:List Pl.Tm}(h:rdP vars ts=some l){m:Pl.Tm}(c:m∈l):∃ t∈ts,Ay vars t=some m:=by
 obtain⟨i,b,rfl⟩:=iw.1 c;have a:i<ts.length:=by rw[<-FR h];exact b
 have h1:=KU h a;have h2:l.getD i ([],0)=l[i]:=by simp[b]
 have h3:ts.getD i tm0=ts[i]:=by simp[a]
 rw[h2,h3]at h1;exact⟨ts[i],fu a,h1⟩
theorem GA{ts:List Tx}(h:∀ i,i+1<ts.length->0<Pl.ordE (ts.getD i tm0).2 (ts.getD (i+1) tm0).2):∀ d i,i+d+1<ts.length->0<Pl.ordE (ts.getD i tm0).2 (ts.getD (i+d+1) tm0).2
 | 0,i,hi=>h i hi
 | d+1,i,hi=>Pl.ordE_trans (GA h d i (by omega)) (h (i+d+1) (by omega))
theorem JY{ts:List Tx}{l:List Pl.Tm}(h:rdP vars ts=some l):Pl.Canon 6 l:=by
 obtain⟨w,_,_,s,_⟩:=CT h;have n:=FR h
 have a:∀ i,i<ts.length->(l.getD i ([],0)).1=An (ts.getD i tm0).2/\((ts.getD i tm0).2.length:Int)=vars:=fun i b=>by
  obtain⟨_,_,h3,_,h5⟩:=A6 (KU h b);exact⟨h5,h3⟩
 refine⟨fun m e => ?_,fun m e => ?_,?_⟩
 · obtain⟨t,v,f⟩:=FT h e;obtain⟨_,_,h3,_,h5⟩:=A6 f;rw[h5,AV (by omega)]
 · obtain⟨t,v,f⟩:=FT h e;exact(A6 f).2.1
 · rw[gH];intro i j b r q;have c:i<ts.length:=by omega
   have d:j<ts.length:=by omega
   have g:=a i c;have k:=a j d;have o:l.getD i ([],0)=l[i]:=by simp[b]
   have p:l.getD j ([],0)=l[j]:=by simp[r]
   rw[o]at g;rw[p]at k;rw[g.1,k.1,QO (by omega)];have:=GA s.2 (j-i-1) i (by omega)
   rwa[show i+(j-i-1)+1=j by omega]at this
theorem QP(a:0<=B)(h:∀ e∈l,0<=e/\e<=B):∀ e∈An l,0<=e/\e<=B:=by
 intro e he;rcases fo.1 he with he|he
 · exact h e he
 · rw[(gQ.1 he).2];omega
theorem It{ts:List Tx}{l:List Pl.Tm}(h:rdP vars ts=some l):∀ t∈l,t.1.length=6/\∀ x∈t.1,0<=x/\x<=1048576:=by
 intro m a;obtain⟨t,f,d⟩:=FT h a;obtain⟨_,_,e,b,c⟩:=A6 d;exact⟨(JY h).len m a,by rw[c];exact QP (by omega) b⟩
theorem KV(n:Nat):n<10^(Lib.decDigits n).length:=by
 have:=W.decV_lt (W.digs_dec n)
 rwa[W.decV_dec]at this
theorem Oi(q:Rat):q.num.natAbs<10^(txt q).length/\q.den<10^(txt q).length:=by
 have h1:=KV q.num.natAbs;have h2:(Lib.decDigits q.num.natAbs).length<=(Lib.itoa q.num).length:=by
  unfold Lib.itoa;split
  · simp
  · have e:q.num.toNat=q.num.natAbs:=by omega
    simp[e]
 have h0:0<(Lib.decDigits q.num.natAbs).length:=List.length_pos_iff.2 (W.dec_ne _);have b:(Lib.itoa q.num).length<=(txt q).length:=by unfold txt;rw[ff];omega
 refine⟨fG h1 (fd (by omega) (by omega)),?_⟩;by_cases a:q.den=1
 · rw[a];exact Nat.one_lt_pow (by omega) (by omega)
 · have h3:=KV q.den;refine fG h3 (fd (by omega) ?_);unfold txt;rw[fl a];simp;omega
theorem TY(h:(txt q).length<=k):Pl.RB (4*k) q:=by
 have h1:=Oi q;have h2:10^(txt q).length<=P2 (4*k):=by
  refine eW (fd (by omega) h) ?_;unfold P2;rw[j9];exact iM (by omega) _
 exact⟨by omega,by omega⟩
theorem QR{l:List Rat}{b:Nat}(h:∀ q∈l,q.den<P2 b):JL l<P2 (b*l.length+1):=by
 have e:∀ (l:List Rat) (a c:Nat),a<P2 c->(∀ q∈l,q.den<P2 b)->l.foldl (fun a q=>a*(q.den/Nat.gcd a q.den)) a<P2 (b*l.length+c):=by
  intro l
  induction l with
  | nil=>intro a c d _;simpa using d
  | cons q r ih =>
   intro a c d h;rw[lL,fW,gS,iN,i7];refine ih _ (b+c) ?_ (fun s f=>h s (by simp[f]));rw[ie b c];exact DY d (fU (gh _ _) (h q (by simp)))
 exact e l 1 1 (by unfold P2;omega) h
theorem GB{l:List Pl.Tm}(h:Pl.Canon 6 l):Pl.Nrm l:=by
 refine⟨h.len,h.nz,?_⟩;unfold List.Nodup;rw[iZ];refine h.desc.imp ?_;intro a b c e;rw[e,Pl.ordE_self]at c;omega
def InV(vars:Nat)(e:List Int):Prop:=e.length=6/\(∀ x∈e,0<=x)/\An (e.take vars)=e
theorem InV.pad{vars:Nat}(h:l.length=vars)(c:vars<=6)(b:∀ x∈l,0<=x):InV vars (An l):=by
 refine⟨AV (by omega),fun x a => ?_,by rw[<-h,GT]⟩;rcases fo.1 a with a|a
 · exact b x a
 · rw[(gQ.1 a).2];omega
theorem Oj:∀ (l:List (List Int)),∃ k:List (List Int),k.Nodup/\∀ e,e∈k<->e∈l
 | []=>⟨[],List.nodup_nil,fun _=>Iff.rfl⟩
 | x :: r=>by
  obtain⟨k,h1,h2⟩:=Oj r;by_cases h:x∈k
  · refine⟨k,h1,fun e => ?_⟩;rw[h2,fS];constructor
    · exact Or.inr
    · rintro(rfl|h3)
      · exact(h2 _).1 h
      · exact h3
  · exact⟨x :: k,iH.2 ⟨h,h1⟩,fun e=>by rw[fS,fS,h2]⟩
theorem JZ(F:List Int->Rat):∀ (k:List (List Int)) (_:k.Nodup) (e:List Int),Pl.coef (k.map (fun x=>(x,F x))) e=if e∈k then F e else 0
 | [],_,e=>by simp[Pl.coef]
 | x :: r,h,e=>by
  have h1:=iH.1 h;have b:=JZ F r h1.2 e;rw[gM];unfold Pl.coef;rw[b];by_cases a:x=e
  · subst a;rw[fE rfl,fl h1.1,fE (by simp)];exact ly _
  · rw[fl a];by_cases he:e∈r
    · rw[fE he,fE (by simp[he])];exact Rat.zero_add _
    · rw[fl he,fl (by simp[he,Ne.symm a])];exact Rat.zero_add _
theorem TZ{p:List Pl.Tm}(h6:∀ t∈p,t.1.length=6):∃ a,Pl.Nrm a/\∀ e,Pl.coef a e=Pl.coef p e:=by
 obtain⟨k,h1,h2⟩:=Oj (p.map (·.1));refine⟨(k.map (fun x=>(x,Pl.coef p x))).filter (fun t=>decide (t.2≠0)),Pl.Nrm.filter ?_ ?_,fun e => ?_⟩
 · intro t b;obtain⟨x,d,rfl⟩:=fh.1 b;obtain⟨s,c,rfl⟩:=fh.1 ((h2 x).1 d);exact h6 s c
 · rw[jY];have:((fun t:Pl.Tm=>t.1) ∘ fun x=>(x,Pl.coef p x))=id:=rfl;rw[this,List.map_id];exact h1
 · rw[Pl.coef_nz,JZ _ k h1];by_cases he:e∈k
   · rw[fE he]
   · rw[fl he];refine(Pl.coef_absent fun t b h=>he ((h2 e).2 ?_)).symm;rw[<-h];exact gn b
theorem FU{p:List Pl.Tm}(h6:∀ t∈p,t.1.length=6):Pl.Canon 6 (cnP p)/\∀ e,Pl.coef (cnP p) e=Pl.coef p e:=by
 obtain⟨b,h1,h2⟩:=TZ h6;obtain⟨l,h3,h4⟩:=JX b h1.len;have a:=h1.perm h3.symm;have c:Pl.Canon 6 l:=Pl.canon_of_sorted a.len a.nz h4 a.nodup;have e:cnP p=l:=M4 h1 h2 h3 h4;rw[e];exact⟨c,fun e=>by rw[Pl.coef_perm h3,h2]⟩
theorem Ok{p:List Pl.Tm}(h6:∀ t∈p,t.1.length=6){t:Pl.Tm}(a:t∈cnP p):∃ s∈p,s.1=t.1:=by
 obtain⟨h1,h2⟩:=FU h6;have h3:Pl.coef p t.1≠0:=by
  rw[<-h2,Pl.coef_mem (GB h1).nodup a];exact h1.nz t a
 exact Pl.coef_present h3
theorem Sv{p:List Pl.Tm}{vars:Nat}(hi:∀ t∈p,InV vars t.1):∀ t∈cnP p,InV vars t.1:=fun t a=>by
 obtain⟨s,b,e⟩:=Ok (fun t a=>(hi t a).1) a;rw[<-e];exact hi s b
theorem Sw{vars:Nat}{ts:List Tx}{l:List Pl.Tm}(h:rdP vars ts=some l):∀ t∈l,InV vars t.1:=by
 intro m c;obtain⟨t,g,d⟩:=FT h c;obtain⟨_,_,f,a,b⟩:=A6 d;rw[b];exact InV.pad (by omega) (by have:=(CT h).1;omega) (fun x e=>(a x e).1)
namespace Aw
def s1:List UInt8:=[49]
def s12:List UInt8:=[49,47,50]
def Vg:List UInt8:=[45,49,47,50]
def e0:List Int:=[1,0,0,0,0,0]
def T1:List Tx:=[(s1,[1,0])]
def T2:List Tx:=[(s1,[2,0])]
def M:List Tx:=[(s12,[1,1]),(s1,[1,0]),(Vg,[1,1])]
end Aw
def Bp(ts:List Tx)(nt d:Nat):Prop:=ts.length<=nt/\∀ t∈ts,t.1.length<=d/\t.2.length<=12
instance (ts:List Tx) (nt d:Nat):Decidable (Bp ts nt d):=inferInstanceAs (Decidable (_/\_))
theorem Ep{ts:List Tx}(O:CS w a n c ts) :
 Calls Tryz.prog 5 #[.agg #[.int .i64 va,.slice a n c],.int .i64 nt,.int .i64 d] w fun e W=>e = .returned (.bool (decide (Bp ts nt d)))/\Ext w W:=by
 have s:=O.len;obtain⟨rx,N,_,v⟩:=O;have G:=qh v;have f:=qh s;clear v s;have S:=N.le
 go_enter Tryz.func5,Tryz.ntmps5
 go_upto_region 1 with(fail)
 refine AK ?_;intro X q l K;have U:=l.c 0 rfl;have L:=l.c 1 rfl;clear l K;by_cases R:nt<n
 · have b:Hid (decide (Bp ts nt d)=false):=qh (by
    apply fw;rintro⟨h,_⟩;have:=f.out
    omega)
   have J:(nt:Int)<(n:Int):=by omega
   clear R;go_wp2;go_ret;exact⟨by rw[b.out];rfl,q⟩
 · have J:¬ (nt:Int)<(n:Int):=by omega
   go_wp2
   go_loopw[7] (fun i wr=>∃ k:Nat,k<=n/\i = .int .i64 k/\Ext X wr/\Hid (∀ i,i<k->(ts.getD i tm0).1.length<=d/\(ts.getD i tm0).2.length<=12)) (fun i _=>n-(intOf i).toNat)
   case atStart=>exact⟨0,f8 _,rfl,Ext.refl _,qh (fun i C=>absurd C (by omega))⟩
   case round =>
    obtain⟨k,hk,rfl,m,M⟩:=hrel;have B:=q.trans m;have V:=m.cell L;by_cases g:k<n
    · obtain⟨Z,o1,rfl,o⟩:=(N.ext B).rd (by omega);obtain⟨s1,Y,D,c1,x,y,A⟩:=G.out k g;have P:=o k g 0 (by omega);have Q:=o k g 1 (by omega);rw[x]at P Q;simp only[lZ,kA,gd]at P Q;have r:=A.len;have z:s1.size=(ts.getD k tm0).1.length:=by rw[<-y,Al]
      have j:Hid (s1.size=(ts.getD k tm0).1.length/\(ts.getD k tm0).2.length=D):=qh ⟨z,r⟩;have p:Hid (ts.getD k tm0∈ts):=qh (by simp[f.out,g]);clear o x y A r z;by_cases h1:d<s1.size
      · have H:(d:Int)<(s1.size:Int):=by omega
        have b:Hid (decide (Bp ts nt d)=false):=qh (by
         apply fw;rintro⟨_,h⟩;have:=h _ p.out;have:=j.out
         omega)
        go_wp2;go_ret;exact⟨by rw[b.out];rfl,B⟩
      · have H:¬ (d:Int)<(s1.size:Int):=by omega
        by_cases h2:12<D
        · have I:(12:Int)<(D:Int):=by omega
          have b:Hid (decide (Bp ts nt d)=false):=qh (by
           apply fw;rintro⟨_,h⟩;have:=h _ p.out;have:=j.out
           omega)
          go_wp2;go_ret;exact⟨by rw[b.out];rfl,B⟩
        · have I:¬ (12:Int)<(D:Int):=by omega
          have F:Hid (∀ i,i<k+1->(ts.getD i tm0).1.length<=d/\(ts.getD i tm0).2.length<=12):=qh (fun i C=>by
           by_cases e:i=k
           · subst e;have:=j.out;omega
           · exact M.out i (by omega))
          go_wp2;go_roundw
          case rel=>exact⟨k+1,by omega,by go_num,m,F⟩
          case measure=>simp[intOf];omega
    · have E:Hid (decide (Bp ts nt d)=true):=qh (by
       apply gl;refine⟨by have:=f.out;omega,fun t T => ?_⟩;obtain⟨i,C,rfl⟩:=iw.1 T;have:=M.out i (by have:=f.out;omega)
       simpa[C]using this)
      go_wp2;go_ret;exact⟨by rw[E.out];rfl,B⟩
theorem CS.nil(w:World):CS w none 0 0 []:=⟨[],SlK.nil w 2,rfl,fun i a=>absurd a (by omega)⟩
theorem Sx(h:(txt q).length<=k+2)(h1:1<=k):q.den<P2 (4*k):=by
 have e:(16:Nat)^k=P2 (4*k):=by unfold P2;rw[j9]
 have b:10^k<=16^k:=iM (by omega) _;rw[<-e];by_cases a:q.den=1
 · rw[a];exact Nat.one_lt_pow (by omega) (by omega)
 · have h3:=KV q.den;have h4:(Lib.decDigits q.den).length<=k:=by
    unfold txt at h;rw[fl a]at h;have h5:0<(Lib.itoa q.num).length:=by
     unfold Lib.itoa;split
     · simp
     · exact List.length_pos_iff.2 (W.dec_ne _)
    simp at h;omega
   exact fG h3 (eW (fd (by omega) h4) b)
namespace Pl
theorem plE_len{a:List Int}(h:a.length=b.length):(plE a b).length=a.length:=by
 unfold plE;rw[List.length_zipWith,h,Nat.min_self]
end Pl
namespace Pl
def QB(D Y:Nat)(q:Rat):Prop:=∃ z:Int,q*(D:Rat)=(z:Rat)/\z.natAbs<=Y
theorem QB.zero(D Y:Nat):QB D Y 0:=⟨0,by rw[Rat.zero_mul];rfl,by simp⟩
theorem QB.add(hp:QB D Y p)(a:QB D Z q):QB D (Y+Z) (p+q):=by
 obtain⟨x,h1,h2⟩:=hp;obtain⟨y,h3,h4⟩:=a;refine⟨x+y,by rw[Rat.add_mul,h1,h3,Rat.intCast_add],?_⟩;have:=lr x y;omega
theorem QB.mul(hp:QB D Y p)(a:QB E Z q):QB (D*E) (Y*Z) (p*q):=by
 obtain⟨x,h1,h2⟩:=hp;obtain⟨y,h3,h4⟩:=a;refine⟨x*y,?_,by rw[iD];exact gO h2 h4⟩;rw[lH,lI,<-h1,<-h3]
 grind
theorem QB.neg(h:QB D Y q):QB D Y (-q):=by
 obtain⟨x,h1,h2⟩:=h;exact⟨-x,by rw[Rat.neg_mul,h1,Rat.intCast_neg],by rw[jj];exact h2⟩
theorem QB.mono(h:QB D Y q)(a:Y<=Z):QB D Z q:=by
 obtain⟨x,h1,h2⟩:=h;exact⟨x,h1,by omega⟩
theorem QB.scale(h:QB D Y q)(k:Nat):QB (D*k) (Y*k) q:=by
 obtain⟨x,h1,h2⟩:=h;refine⟨x*k,?_,by rw[iD];exact gO h2 (lrf _)⟩;rw[lH,lI,<-h1,<-lQ];rfl
theorem QB.parts(h:QB D Y q)(c:0<D):q.num.natAbs<=Y/\q.den∣D:=by
 obtain⟨z,h1,h2⟩:=h;have h0:(D:Rat)≠0:=fun h=>by have:=lP.1 h;omega
 have e:q=mkRat z D:=by
  rw[Ph,<-h1,lQ,Rat.mul_inv_cancel _ h0,Rat.mul_one]
 obtain⟨b,a⟩:=rat_frac (n:=z) (d:=D) (by omega);rw[e];refine⟨eW (mkRat_le (by omega)).1 h2,?_⟩;rw[a];exact Nat.div_dvd_of_dvd (jz _ _)
theorem QB.rb{b:Nat}(h:QB D Y q)(a:0<D)(h1:D<P2 b)(h2:Y<P2 b):RB b q :=
 ⟨fU (h.parts a).1 h2,fU (ld a (h.parts a).2) h1⟩
theorem QB.of(a:q.den∣D)(b:q.num.natAbs<=Y):QB D (Y*D) q:=by
 refine⟨zsc q D,(TS a).symm,?_⟩;unfold zsc;rw[iD];exact gO b (gh _ _)
def SB(D Y:Nat)(l:List Tm):Prop:=∀ t∈l,QB D Y t.2
theorem SB.coef{D Y:Nat}(e:List Int):∀ {l:List Tm},SB D Y l->QB D (l.length*Y) (coef l e)
 | [],_=>QB.zero _ _
 | t :: r,h=>by
  have h1:QB D Y (if t.1=e then t.2 else 0):=by
   split
   · exact h t (by simp)
   · exact QB.zero _ _
  have h2:=QB.add h1 (SB.coef e (l:=r) (fun s a=>h s (by simp[a])));exact h2.mono (by rw[fW,gA];omega)
theorem SB.mono{D Y Z:Nat}{l:List Tm}(h:SB D Y l)(b:Y<=Z):SB D Z l:=fun t a=>(h t a).mono b
theorem SB.scale{D Y:Nat}{l:List Tm}(h:SB D Y l)(k:Nat):SB (D*k) (Y*k) l:=fun t a=>(h t a).scale k
theorem SB.app{a b:List Tm}(c:SB D Y a)(d:SB D Y b):SB D Y (a ++ b):=fun t e=>(fo.1 e).elim (c t) (d t)
theorem SB.app2{a b:List Tm}(c:SB D Y a)(d:SB E Z b):SB (D*E) (Y*E+Z*D) (a ++ b):=by
 refine SB.app ((c.scale E).mono (by omega)) ?_;rw[f9 D E];exact(d.scale D).mono (by omega)
theorem SB.of{Y:Nat}{l:List Tm}(h:∀ t∈l,t.2.num.natAbs<=Y):SB (JL (l.map (·.2))) (Y*JL (l.map (·.2))) l :=
 fun t a=>QB.of (QN (gn a)) (h t a)
end Pl
theorem Sy{p:List Pl.Tm}(h6:∀ t∈p,t.1.length=6):(cnP p).length<=p.length:=by
 have h:=Pl.nodup_le ((cnP p).map (·.1)) (p.map (·.1)) (GB (FU h6).1).nodup (fun e he=>by
  obtain⟨t,b,rfl⟩:=fh.1 he;obtain⟨s,a,e⟩:=Ok h6 b;rw[<-e]
  exact gn a)
 simpa using h
theorem SB.cn{p:List Pl.Tm}(h6:∀ t∈p,t.1.length=6)(h:Pl.SB D Y p):Pl.SB D (p.length*Y) (cnP p):=by
 intro t a;obtain⟨h1,h2⟩:=FU h6;rw[<-Pl.coef_mem (GB h1).nodup a,h2];exact h.coef t.1
def Lo(l:List Pl.Tm):Prop:=∀ t∈l,t.1.length=6/\∀ x∈t.1,0<=x/\x<=1048576
theorem SC(h:(txt q).length<=k):q.num.natAbs<10^k :=
 fG (Oi q).1 (fd (by omega) h)
theorem T0{ts:List Tx}{l:List Pl.Tm}{B:Nat}(h:rdP va ts=some l)(g:Bp ts nt d)(o:3<=d)(n:10^d<=P2 B) :
 ∃ D,0<D/\D<P2 (4*(d-2)*nt+1)/\Pl.SB D (P2 (B+(4*(d-2)*nt+1))) l:=by
 have e:∀ t∈l,(txt t.2).length<=d:=by
  intro m e;obtain⟨t,c,j⟩:=FT h e;have h1:=DA (A6 j).1;rw[<-h1];exact(g.2 t c).1
 have a:=FR h;have f:JL (l.map (·.2))<P2 (4*(d-2)*nt+1):=by
  have h1:=QR (l:=l.map (·.2)) (b:=4*(d-2)) (fun q i=>by
   obtain⟨t,c,rfl⟩:=fh.1 i
   exact Sx (k:=d-2) (by have:=e t c;omega) (by omega))
  refine AO h1 ?_;have h2:l.length<=nt:=by rw[a];exact g.1
  have:=fx (4*(d-2)) h2;rw[ft];omega
 refine⟨_,R9 (l.map (·.2)),f,(Pl.SB.of (Y:=P2 B) (fun t c => ?_)).mono ?_⟩
 · have:=SC (e t c);omega
 · rw[DX];exact fx _ (jt f)
structure Pv(v:Int)(l:List Pl.Tm):Prop where
 v0:0<=v/\v<=6
 can:Pl.Canon 6 l
 inv:∀ t∈l,InV v.toNat t.1
theorem Pv.of{ts:List Tx}{l:List Pl.Tm}(h:rdP v ts=some l):Pv v l:=by
 have a:=(CT h).1;refine⟨a,JY h,?_⟩;obtain⟨k,rfl⟩:∃ k:Nat,v=(k:Int):=⟨v.toNat,by omega⟩;rw[jA];exact Sw h
theorem InV.pl{a:List Int}(r:InV n a)(s:InV n b):InV n (Pl.plE a b):=by
 obtain⟨i,m,j⟩:=r;obtain⟨o,p,k⟩:=s;refine⟨by rw[Pl.plE_len (by omega),i],fun x c => ?_,?_⟩
 · have f:∀ {a b:List Int},(∀ x∈a,0<=x)->(∀ x∈b,0<=x)->∀ x∈Pl.plE a b,0<=x:=by
    intro a
    induction a with
    | nil=>intro b _ _ x c;simp[Pl.plE]at c
    | cons u a ih =>
     intro b h1 h2 x c;cases b with
     | nil=>simp[Pl.plE]at c
     | cons w b =>
      have d:x=u+w\/x∈Pl.plE a b:=by simpa[Pl.plE]using c
      rcases d with rfl|c
      · have:=h1 u (by simp);have:=h2 w (by simp);omega
      · exact ih (fun z e=>h1 z (by simp[e])) (fun z e=>h2 z (by simp[e])) x c
   exact f m p x c
 · unfold An at j k |-;have q:(Pl.plE a b).take n=Pl.plE (a.take n) (b.take n):=by unfold Pl.plE;rw[List.take_zipWith]
   have g:(a.take n).length=(b.take n).length:=by simp[i,o]
   have l:Pl.plE (a.take n ++ List.replicate (6-(a.take n).length) 0) (b.take n ++ List.replicate (6-(b.take n).length) 0)=Pl.plE (a.take n) (b.take n) ++ List.replicate (6-(a.take n).length) 0:=by
    unfold Pl.plE;rw[List.zipWith_append g,<-g];congr 1;rw[List.zipWith_replicate];simp
   rw[j,k]at l;rw[q,l,Pl.plE_len g]
theorem KW{a b:List Pl.Tm}(c:∀ t∈a,InV n t.1)(d:∀ t∈b,InV n t.1):∀ t∈a ++ b,InV n t.1:=fun t e=>(fo.1 e).elim (c t) (d t)
theorem Pv.app{a b:List Pl.Tm}(c:Pv v a)(d:Pv v b):Pv v (cnP (a ++ b)) :=
 ⟨c.v0,(FU fun t e=>(KW c.inv d.inv t e).1).1,Sv (KW c.inv d.inv)⟩
structure Bd(v:Int)(N d y:Nat)(l:List Pl.Tm):Prop where
 pv:Pv v l
 lo:Lo l
 len:l.length<=N
 sb:∃ D,0<D/\D<P2 d/\Pl.SB D (P2 y) l
section
variable {v:Int} {N M d e y z:Nat} {la lb:List Pl.Tm} {ts:List Tx}
theorem Bd.of{nt k B:Nat}(h:rdP v ts=some la)(a:Bp ts nt k)(c:3<=k)(b:10^k<=P2 B):Bd v nt (4*(k-2)*nt+1) (B+(4*(k-2)*nt+1)) la :=
 ⟨Pv.of h,It h,by rw[FR h];exact a.1,T0 h a c b⟩
theorem Lo.of{l:List Pl.Tm}(h:rdP v ts=some l):Lo l:=It h
theorem Bd.app1(f:Bd v N d y la)(g:Bd v M e z lb)(h1:y+e<m)(h2:z+d<m):(la ++ lb).length<=N+M/\∃ D,0<D/\D<P2 (d+e)/\Pl.SB D (P2 m) (la ++ lb):=by
 obtain⟨D,i,b,j⟩:=f.sb;obtain⟨E,k,c,l⟩:=g.sb;refine⟨by have:=f.len;have:=g.len;rw[ff];omega,D*E,jr i k,DY b c,(j.app2 l).mono ?_⟩;have n:P2 y*E<=P2 (m-1):=by
  refine eW ?_ (OO (a:=y+e) (by omega));rw[DX];exact fx _ (jt c)
 have o:P2 z*D<=P2 (m-1):=by
  refine eW ?_ (OO (a:=z+d) (by omega));rw[DX];exact fx _ (jt b)
 have p:P2 m=P2 (m-1)*2:=by
  conv=>lhs;rw[show m=m-1+1 by omega,DX]
  rfl
 omega
theorem Bd.app{k m:Nat}(a:Bd v N d y la)(b:Bd v M e z lb)(h:rdP v ts=some (cnP (la ++ lb)))(h1:y+e<m)(h2:z+d<m)(j:N+M<=P2 k):Bd v (N+M) (d+e) (k+m) (cnP (la ++ lb)):=by
 have h6:∀ t∈la ++ lb,t.1.length=6:=fun t l=>(KW a.pv.inv b.pv.inv t l).1;obtain⟨c,D,f,g,i⟩:=a.app1 b h1 h2;refine⟨a.pv.app b.pv,It h,eW (Sy h6) c,D,f,g,(SB.cn h6 i).mono ?_⟩;rw[DX];exact eS _ (eW c j)
end
def mp(n:Nat)(a e:List Int):List Int:=An (mvd a (e.take n))
def actU(a:List Int)(l:List Pl.Tm):List Pl.Tm:=l.map fun t=>(mvd a t.1,t.2)
theorem QU(a:List Int)(l:List Pl.Tm):(actU a l).length=l.length:=ft ..
theorem PC{a:List Int}{l:List Pl.Tm}(b:k<l.length):actU a (l.take k) ++ [(mvd a (l.getD k tz).1,(l.getD k tz).2)]=actU a (l.take (k+1)):=by
 unfold actU;rw[eU b,fM,gqq,eQ b];rfl
theorem TB.actU{N:Nat}{xs:List Int}{l:List Pl.Tm}(h:TB N l)(hp:Ak xs=true)(d:xs.length=N):TB N (actU xs l):=fun t b=>by
 obtain⟨s,a,rfl⟩:=fh.1 b;obtain⟨h1,h2⟩:=h s a;exact⟨by show(mvd xs s.1).length=N;rw[Bh];exact h1,fun x c=>h2 x (Od hp (by omega) c)⟩
theorem M6{b:Option Addr}(p:SlI w a n c xs)(j:SlI w b n d ys)(r:Ak xs=true) :
 Calls Tryz.prog 83 #[.slice a n c,.slice b n d] w fun e k=>∃ f g,e = .returned (.slice f n g)/\Ext w k/\AD k w.heap.size f n g (mvd xs ys):=by
 refine(Pp p j r).mono ?_;rintro e s ⟨l,q,m,rfl,o,i⟩;have h:q=n:=by have h1:=i.sl.len;have h2:=j.len;rw[Bh]at h1;omega
 subst h;exact⟨l,m,rfl,o,i⟩
theorem PD{N b0 cx:Nat}(hN:N<=12){x:Option Addr}{xs:List Int}{a:Option Addr}{n c:Nat}{y:List Pl.Tm}{w:World}(hx:SlI w x N cx xs)(hp:Ak xs=true)(ha:TSl w b0 a n c y)(ba:TB N y)(hw:b0<=w.heap.size)(hn:n<=10000)(hs:Pl.SubOK (actU xs y)) :
 Calls Tryz.prog 54 #[.slice x N cx,.agg (pL (N:Int) a n c).toArray] w (Qn w b0 (N:Int) N (actU xs y)):=by
 have z:=ha.len;have J:=qh hp;have a0:=hx.len;have ah:=qh a0;clear hp a0
 go_enter Tryz.func54,Tryz.ntmps54
 go_upto_region 1 with(fail)
 refine I6 ?_;intro w0 R F Q aH;have aD:Arr w0 (w.heap.size+1) 65 (pL 0 none 0 0):=Q;have p0:=F.c 0 rfl;have p1:=F.c 1 rfl;clear F Q aH;go_wp2
 go_loopw[5,6] (fun lv iv wr=>∃ (k:Nat) (M:Option Addr) (P:Nat),lv = .slice M k P/\iv = .int .i64 k/\k<=n/\Ext w0 wr/\Hid (TO wr b0 w0.heap.size M k P (actU xs (y.take k)))) (fun _ iv _=>n-(intOf iv).toNat)
 case atStart=>exact⟨0,none,0,rfl,rfl,f8 _,Ext.refl _,by rw[gZ];exact qh (TO.nil _ _ _)⟩
 case round =>
  obtain⟨k,M,P,rfl,rfl,hk,H,HO⟩:=hrel;have s:=R.trans H;have aO:=H.cell p0;have aJ:=H.cell p1;by_cases q:k<n
  case neg =>
   have ad:¬ (k:Int)<n:=by omega
   have aF:k=n:=by omega
   have hT:TO wr b0 w0.heap.size M k P (actU xs y):=by
    have h1:=HO.out;rw[eR (by omega)]at h1;exact h1
   have a5:=qh (JP (N:=N) (b0:=b0) hN (vars:=(N:Int)) hT.sl (ba.actU J.out ah.out) (eW hw s.size) (by omega) hs);have hR:=aD.ext H;have af:=qh hw;clear HO hT hs aF z ba
   go_wp2_with fail
   refine a5.out.mono ?_;rintro e w1 ⟨a1,n1,c1,aI,rfl,S,aA,a3,A,W⟩;have U:=hR.ext S;have HX:=qh A;have HY:=qh W;have ai:=qh a3;clear a5 A W a3 hR
   go_wp2_with(refine Aa (vs:=pL (N:Int) a1 n1 c1) rfl rfl rfl rfl rfl Av U rfl (AX _ _ _ _) ?_;intro w9 ar Z)
   exact eZ (Aq rfl Av rfl ar) rfl ⟨a1,n1,c1,aI,rfl,(s.trans S).grownR Z (by omega),(aA.keptA U (by decide) (by decide) (by decide) (by have:=af.out;omega) Z).mono s.size,ai.out,HX.out,HY.out⟩
  have ad:(k:Int)<n:=by omega
  have t:k<y.length:=by omega
  obtain⟨i,l,aK,s1,x1,m1,d1,y1,g1,h1,E,m,f1,rfl,p,b,K,a2,X,G⟩:=(ha.ext s).row q;have C:y.getD k tz∈y:=gT (getD_some t);have aE:=ba _ C;have ac:m=N:=by have q1:=G.1.len;omega
  subst ac;have al:wr.cell? ⟨i,l+k*5,none⟩=some (.bool s1):=by have:=p.cl q (j:=0) (by omega);rw[b]at this;exact this
  have am:wr.cell? ⟨i,l+k*5+1,none⟩=some (.slice x1 m1 d1):=by have:=p.cl q (j:=1) (by omega);rw[b]at this;exact this
  have an:wr.cell? ⟨i,l+k*5+2,none⟩=some (.bool false):=by have:=p.cl q (j:=2) (by omega);rw[b]at this;exact this
  have ap:wr.cell? ⟨i,l+k*5+3,none⟩=some (.slice y1 g1 h1):=by have:=p.cl q (j:=3) (by omega);rw[b]at this;exact this
  have aq:wr.cell? ⟨i,l+k*5+4,none⟩=some (.slice E m f1):=by have:=p.cl q (j:=4) (by omega);rw[b]at this;exact this
  have ak:=qh (PC (a:=xs) t);have aj:Hid (QV wr (.agg #[.bool s1,.slice x1 m1 d1,.bool false,.slice y1 g1 h1]) (y.getD k tz).2):=qh ⟨s1,x1,m1,d1,y1,g1,h1,rfl,K,a2,X⟩;have aG:=qh (fun(wy:World) (f:Ext wr wy)=>M6 ((hx.ext s).ext f) (G.1.ext f) J.out);have ag:=qh z;generalize y.getD k tz=u at *
  clear p b C a2 X G K z t aE
  go_upto_region 5 with(fail)
  have D:=fun(o:World) (f:Ext wr o)=>qh (And.intro (f.cell aJ) (And.intro (f.cell al) (And.intro (f.cell am) (And.intro (f.cell an) (And.intro (f.cell ap) (f.cell aq))))))
  refine Ac
   [hdS M k P,hdP w.heap.size 1,hdS (some ⟨i,l,none⟩) n c,hdI k,hdP i (l+k*5),hdP i (l+k*5),he (.agg #[.bool s1,.slice x1 m1 d1,.bool false,.slice y1 g1 h1]),hdS x m cx,hdP w.heap.size 1,hdS (some ⟨i,l,none⟩) n c,hdI k,hdP i (l+k*5),hdP i ((l+k*5)+4),hdS E m f1,hp (fun v o=>∃ L O,v = .slice L m O/\AD o wr.heap.size L m O (mvd xs u.1)),hp (fun v o=>Hh o b0 v (mvd xs u.1,u.2)),hp (fun v o=>Ij o b0 v (mvd xs u.1,u.2))]
   ⟨fun v w w' e h=>by obtain⟨L,O,h1,h2⟩:=h;exact⟨L,O,h1,Own.ext h2 e⟩,Hh.x _ _,Ij.x _ _,trivial⟩ ⟨?o0,?o1,?o2,?o3,?o4,?o5,?o6,?o7,?o8,?o9,?o10,?o11,?o12,?o13,?o14,?o15,?o16,trivial⟩ ?fin
  case o0 | o3 | o7 | o10=>exact omv
  case o1 | o8=>exact ofa (d:=1)
  case o2 | o9 | o13=>exact ol
  case o5=>exact ofa (d:=0)
  case o6=>exact ol4
  case o12=>exact ofa (d:=4)
  case o4 =>
   refine Ae rfl fun ρ o f B h => ?_;have e0:_=_:=h.1;have e1:_=_:=h.2.1;obtain⟨kq,a6,a7,a9,aa,ab⟩:=(D o f).out;go_simp
   try (first | (intros;omega) | exact eT _ (by omega))
  case o11 =>
   refine Ae rfl fun ρ o f B h => ?_;have e0:_=_:=h.1;have e1:_=_:=h.2.1;obtain⟨kq,a6,a7,a9,aa,ab⟩:=(D o f).out;go_simp
   try (first | (intros;omega) | exact eT _ (by omega))
  case o14 =>
   refine Ah rfl fun ρ o f B aN h => ?_;have e1:_=_:=h.2.1;have e2:_=_:=h.2.2.1;obtain⟨kq,a6,a7,a9,aa,ab⟩:=(D o f).out;refine⟨83,#[.slice x m cx,.slice E m f1],by go_simp,(aG.out o f).mono ?_⟩;rintro e w' ⟨a',c',rfl,au,az⟩;exact⟨_,rfl,au,a',c',rfl,Own.mono az f.size⟩
  case o15 =>
   refine TF rfl rfl Ik ?_;rintro ρ o hp f ⟨e0,⟨v1,e1,L,O,rfl,aB⟩,-⟩;exact⟨by rw[e0];exact aj.out.ext f,_,_,_,e1,TT aB⟩
  case o16 =>
   refine Qv rfl rfl Tryz.underlying63 BZ ?_;rintro ρ o hp f ⟨⟨v0,e0,i0⟩,-⟩;rw[e0];exact i0
  case fin =>
   intro o f;rintro _ _;rintro _ _;rintro _ ⟨g9,aL,rfl,aw,V⟩;change wpList _ _ _ _ _ _;simp only[Bs];obtain⟨aP,hK,ay,ax⟩:=HO.out;have T:=hK.ext f;obtain⟨h5,h6⟩:=V.five;have hL:=BA (k:=5) aw h5;have ae:=(H.trans f).size
   go_wp2_with(refine CC rfl rfl Tryz.underlying63 BZ rfl T rfl hL (by intro r hr u hu;rw[eV.1 hr]at hu;exact h6 u hu) (by unfold maxLen;omega) (by omega) ae ?_;intro a8 c8 w8 aC Y aM)
   have I:=TO.grow T ay (fun j hj=>(ax j hj).ext f) V (eW hw R.size) aC Y;rw[ak.out]at I;have av:Ext w0 w8:=(H.trans f).grown Y (fun g hg=>(hK.lt hg).1);have z:=ag.out;go_roundw
   case rel=>exact⟨k+1,a8,c8,by go_num,by go_num,by omega,av,qh I⟩
   case measure=>simp[intOf];omega
def SD(l:List Pl.Tm):List Pl.Tm:=l.map (fun t=>(An t.1,t.2))
def rdU(t:Tx):Pl.Tm:=(t.2,(AZ t.1).getD 0)
theorem M7{t:Tx}{m:Pl.Tm}(h:Ay vars t=some m):m=(An (rdU t).1,(rdU t).2):=by
 obtain⟨h1,_,_,_,h2⟩:=A6 h;unfold rdU;rw[h1];exact Prod.ext h2 rfl
theorem KX{ts:List Tx}{l:List Pl.Tm}(h:rdP vars ts=some l):l=SD (ts.map rdU)/\Pl.Canon vars.toNat (ts.map rdU):=by
 obtain⟨n,h1,h2,h3,h4⟩:=CT h;have b:∀ t∈ts,∃ m,Ay vars t=some m:=by
  intro t b;obtain⟨i,c,rfl⟩:=iw.1 b;have:=h3.1 i c;rw[gqq,eQ c,fC]at this;exact gD.1 this
 refine⟨?_,?_,?_,?_⟩
 · rw[h4];unfold SD;rw[jY];refine kz fun t h5 => ?_;obtain⟨m,a⟩:=b t h5;rw[a];exact M7 a
 · intro t h5;obtain⟨s,h6,rfl⟩:=fh.1 h5;obtain⟨m,a⟩:=b s h6;have:=(A6 a).2.2.1;show s.2.length=_;omega
 · intro t h5;obtain⟨s,h6,rfl⟩:=fh.1 h5;obtain⟨m,a⟩:=b s h6;obtain⟨d,f,_⟩:=A6 a;show(AZ s.1).getD 0≠0;rw[d];exact f
 · refine iZ.2 (gH.2 fun i j c k g => ?_);have:=GA h3.2 (j-i-1) i (by omega);have e:i+(j-i-1)+1=j:=by omega
   rw[e,gqq,gqq,eQ c,eQ k,fC,fC]at this;exact this
theorem KY(l:SlI w a n c xs) :
 Calls Tryz.prog 80 #[.slice a n c] w fun e D=>e = .returned (.int .i64 (Dy xs))/\w=D:=by
 have g:=eP l.len;have x:=l.le;by_cases h6:6<(n:Int)
 · have d:Hid (Dy xs = -1):=by
    show Dy xs = -1;unfold Dy;rw[fE (by rw[g.out];omega)]
   go_enter Tryz.func80,Tryz.ntmps80
   go_wp2;go_ret;exact⟨Cd d.out,rfl⟩
 · have d:Hid (Dy xs=EH 0 xs):=by
    show Dy xs=_;unfold Dy;rw[fl (by rw[g.out];omega)]
   go_enter Tryz.func80,Tryz.ntmps80
   go_wp2
   go_loop[3,4] (fun v i=>∃ (s:Int) (k:Nat),v = .int .i64 s/\i = .int .i64 k/\k<=n/\0<=s/\s<=24/\Hid (EH 0 xs=EH s (xs.drop k))) (fun _ i=>n-(intOf i).toNat)
   case atStart=>exact⟨0,0,rfl,rfl,f8 _,by omega,by omega,eP rfl⟩
   case round =>
    obtain⟨s,k,rfl,rfl,G,z,A,j⟩:=hrel;by_cases b:k<n
    · obtain⟨E,I,rfl,p⟩:=l.at b;have F:=p k b;have f:k<xs.length:=by rw[g.out];exact b
      have o:=eP (OZ f j.out);have r:=eP (MM f j.out);generalize xs.getD k 0=y at *
      clear p;by_cases C:y<0
      · go_wp2;go_ret;exact⟨Cd (by rw[d.out,o.out (Or.inl C)]),rfl⟩
      · have H:IntKind.i64.wrap (24-s)=24-s:=eT _ (by omega);by_cases m:24-s<y
        · go_wp2;go_ret;exact⟨Cd (by rw[d.out,o.out (Or.inr m)]),rfl⟩
        · have B:IntKind.i64.wrap (s+y)=s+y:=eT _ (by omega);go_wp2;go_round
          case rel=>exact⟨s+y,k+1,by go_num,by go_num,by omega,by omega,by omega,eP (r.out (by omega))⟩
          case measure=>simp[intOf];omega
    · have t:xs.drop k=[]:=fK (by have:=g.out;omega);have q:Hid (Dy xs=s):=by
       show Dy xs=s;rw[d.out,j.out,t];rfl
      go_wp2;go_ret;exact⟨Cd q.out,rfl⟩
theorem LS(b:SlI w a n c xs) :
 Calls Tryz.prog 51 #[.slice a n c] w fun e g=>e = .returned (.bool (B3 xs))/\w=g:=by
 have f:=eP b.len;by_cases h6:(n:Int)<=6
 · go_enter Tryz.func51,Tryz.ntmps51
   go_wp2_with fail
   refine(KY b).mono ?_;rintro e i ⟨rfl,rfl⟩;go_wp2;go_ret;exact⟨rfl,rfl⟩
 · have d:Hid (B3 xs=false):=by
    show B3 xs=false;unfold B3 Dy;rw[fE (by rw[f.out];omega)];rfl
   go_enter Tryz.func51,Tryz.ntmps51
   go_wp2;go_ret;exact⟨Nt d.out,rfl⟩
theorem T3(h:SlI w a n c xs):XI w w.heap.size a n c xs:=by
 refine⟨h,fun h0 g e => .inl ?_⟩;obtain⟨b,o,rfl,d⟩:=Sl.rd h h0;have h1:b<w.heap.size:=gF w _ (d 0 h0);have h2:b=g:=by simpa[blk]using e
 omega
theorem QW{ts:List Tx}(a:k<ts.length):(ts.take k).map rdU ++ [rdU (ts.getD k tm0)]=(ts.take (k+1)).map rdU:=by
 rw[eU a,fM,gqq,eQ a];rfl
end Go.Proofs.YthdbingomfdeoaaGreatDoor
