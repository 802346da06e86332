/- Part Py10. -/
import Derived.Test.YtlbmnokpiilfpaaGreatDoorPy9
import Derived.ArgAppend
import Derived.Shelf.SlLaysF0
import Derived.Test.YtlbmnokpiilfpaaGreatDoorProg
import Derived.Shelf.SlSortCmp.NoneTotal
set_option linter.all false
set_option maxRecDepth 100000
set_option maxHeartbeats 100000000
namespace Go.Proofs.YtlbmnokpiilfpaaGreatDoor
open Tryz Go Go.RowKit
def iB:=@Rat.mul_assoc
def jD:=@Option.isSome_some
def kZ:=@Nat.le_of_eq
def kl:=@Rat.natCast_mul
def lG:=@List.pairwise_iff_getElem
def lJ:=@List.map_map
def lM:=@Rat.mul_inv_cancel
def lU:=@List.pairwise_map
def mD:=@List.Perm.refl
def mL:=@Rat.natCast_eq_zero_iff
def mo:=@List.map_congr_left
def oF:=@List.getElem?_map
def oH:=@Rat.intCast_mul
def oI:=@List.flatMap_cons
def oJ:=@Rat.mul_eq_zero
def oc:=@Rat.intCast_add
def ou:=@Array.extract_eq_self_of_le
variable {f:Act} {ad:Addr} {ops:Array Oper} {Q:Exit->Act->World->Prop} {vars:Int} {m:List (List Int×Value)} {news rows:List (List Value)} {seen:List Nat} {rest:List Oper} {cs zs:List Value} {base c cx g it k n r:Nat} {o:Oper} {l s x y:Operand} {a:Option Addr} {row:Option Nat} {P:Program} {e et kt mt t ty vt:TypeId} {w w':World}
def NoU(w:World)(g:Nat):Prop:=∀ j i,w.cell? ⟨g,j,none⟩≠some (.int .u64 i)
def nuR(rows:List (List Value)):Prop:=∀ r∈rows,∀ v∈r,∀ i,v ≠ .int .u64 i
theorem Arr.noU(h:Arr w g t cs)(a:∀ v∈cs,∀ i,v ≠ .int .u64 i):NoU w g:=by
 intro j i e;have h4:w.cell? ⟨g,j,none⟩=cs[j]?:=by
  unfold Arr at h;simp[World.cell?,h]
 rw[h4]at e;exact a _ (gY e) _ rfl
theorem NoU.ext(h:NoU w g)(a:g<w.heap.size)(e:Ext w w'):NoU w' g:=by
 intro j i;rw[jT (w:=w) (e.block (k:=g) a)];exact h j i
theorem NoU.kept(h:NoU w g)(a:g<w.heap.size)(c:w.grownBy w' row)(b:some g≠row):NoU w' g:=by
 intro j i;rw[jT (w:=w) (c.block g a b)];exact h j i
theorem Wd.keptU{x:Nat}(h:Wd w a n c x)(d:NoU w g)(f:w.grownBy w' (some g)):Wd w' a n c x:=by
 obtain⟨i,h1,h2⟩:=h;refine⟨i,?_,h2⟩;rcases oV n with h0|h0
 · subst h0;exact⟨Sl.len h1,Sl.cap h1,Sl.max h1,fun h=>absurd h (mM _)⟩
 · refine h1.kept f (Or.inr fun he => ?_);obtain⟨b,o,rfl,e⟩:=h1.at (j:=0) h0;simp only[blk,jm,oQ]at he;subst he;exact d _ _ (e 0 h0)
def EL(w:World)(base:Nat)(e:TypeId)(k g n c:Nat)(rows:List (List Value)):Prop:=AP w base e k (some ⟨g,0,none⟩) n c rows/\NoU w g
section
variable {w w':World} {base:Nat} {e:TypeId} {k g n c:Nat} {rows:List (List Value)}
theorem EL.lt(h:EL w base e k g n c rows):base<=g/\g<w.heap.size:=h.1.lt rfl
theorem EL.ext(h:EL w base e k g n c rows)(x:Ext w w'):EL w' base e k g n c rows:=⟨h.1.ext x,h.2.ext h.lt.2 x⟩
theorem EL.kept{row:Option Nat}(h:EL w base e k g n c rows)(b:w.grownBy w' row)(a:some g≠row):EL w' base e k g n c rows:=⟨h.1.kept b (Or.inr a),h.2.kept h.lt.2 b a⟩
theorem EL.nu(o:0<k)(h:EL w base e k g n c rows):nuR rows:=by
 have f:=h.1.slk o;intro r l v s i;obtain⟨p,hp,rfl⟩:=jC.1 l;obtain⟨q,j,rfl⟩:=jC.1 s;have a:p<n:=by rw[<-f.len];exact hp
 have d:q<k:=by rw[<-f.wid _ l];exact j
 obtain⟨b,t,e,m⟩:=f.rd (by omega);simp only[oQ,ic,iY]at e;obtain⟨rfl,rfl⟩:=e;have h1:=m p a q d;have h2:(rows.getD p []).getD q undef=(rows[p])[q]:=by simp[hp,j]
 rw[h2]at h1;intro he;rw[he]at h1;exact h.2 _ _ h1
end
section
variable {P:Program} {w:World}
theorem SN{bytes:Nat}{m:Nat} 
 (U:P.underlying t=some (.slice e)) (a:BT P e zs k bytes) (f:EL w base e k g n c rows) (s:SlK w k (some ad) m cx news)
 (h1:∀ r∈news,∀ u∈r,u.oneCell'=true) (N:nuR news) (v:n+m<=c) (x:(n+m)*bytes<=140737488355328) (C:base<=w.heap.size) :
 ∃ K,(Builtin.append_ #[t,t] ty #[.slice (some ⟨g,0,none⟩) n c,.slice (some ad) m cx]).run P w = .ok (.slice (some ⟨g,0,none⟩) (n+m) c) K/\EL K base e k g (n+m) c (rows ++ news)/\w.grownBy K (some g):=by
 have T:=(f.1.slk a.2.2).max;obtain⟨a',c',K,B,h2,h3,h4⟩:=JY (P:=P) (ty:=ty) U a f.1 s h1 (by omega) x C;obtain⟨i,Y,hz,d,W⟩:=a.parts;have R:=a.2.2;have z:=B7 news s.wid;rw[s.len]at z;have y:∀ j u,news.flatten[j]?=some u->w.cell? (ad.add j)=some u:=by
  intro j u hu;have A:j<news.flatten.length:=by
   rcases gQ j news.flatten.length with h|h
   · exact h
   · simp[pu h]at hu
  rw[z]at A;have M:0<m:=by rcases oV m with h | h;(rw[h,pw]at A;omega);exact h
  obtain⟨b,o,h,X⟩:=s.rd M;injection h with h;subst h;have G:j/k<m:=(iS R).2 A;have I:j%k<k:=gE _ R;have H:j=j/k*k+j%k:=by rw[oU];exact(ij j k).symm
  have h2:=X (j/k) G (j%k) I;have h3:=Eb news s.wid (j/k) (j%k) I;rw[<-H,hu]at h3;have S:j/k<news.length:=by rw[s.len];exact G
  rw[oN S,ks]at h3;have h4:(news.getD (j/k) []).getD (j%k) undef=u:=by
   rw[gqq (l:=news),oN S,pg,gqq,<-h3];rfl
  rw[h4,jk,<-H]at h2;rw[<-h2];unfold Addr.add;by_cases h0:j=0 <;> simp[h0]
 rcases f.1.2.2 with⟨J,_⟩|⟨g',V,E,J,hb,Q,Z,hm,hs,a0⟩
 · simp at J
 simp only[pk,oQ,ic,iY,lh]at J;obtain⟨rfl,rfl⟩:=J;have L:∀ j,j<news.flatten.length->n*k+j<E.size:=by
  intro j A;rw[z]at A;have:(n+m)*k<=c*k:=oO k v;rw[iy]at this;omega
 have F:∀ j,j<news.flatten.length->(w.cell? ⟨g,n*k+j,none⟩).isSome=true:=by
  intro j A;rw[nC w g _ E e (0,0) Q,kj (L j A)];rfl
 have D:=run_append_room_cells (P:=P) (w:=w) t ty e i U Y g 0 n c ad m cx news.flatten (by rw[z,d]) y (by intro u hu;obtain⟨r,O,hu⟩:=ld.1 hu;exact h1 r O u hu) v (by rw[d,gL];exact F) (by intro j A;simp[World.frozen?,Q]);rw[B,d,gL]at D;simp only[Result.ok.injEq,pk,lh]at D;obtain⟨⟨rfl,rfl⟩,rfl⟩:=D;refine⟨_,B,⟨h2,?_⟩,h3⟩;intro j q he;by_cases A:n*k<=j/\j<n*k+news.flatten.length
 · obtain⟨p,rfl⟩:∃ p,j=n*k+p:=⟨j-n*k,by omega⟩;have hp:p<news.flatten.length:=by omega
   rw[World.cell?_setCells_in g news.flatten (n*k) w F p hp]at he;simp only[oQ]at he;obtain⟨r,O,hu⟩:=ld.1 (iF hp);exact N r O _ hu q he
 · rw[World.cell?_setCells_out g news.flatten (n*k) w ⟨g,j,none⟩ (fun _ _=>by simp only;omega)]at he;exact f.2 j q he
theorem L7(q:o.guard=none)
 (C:o.op = .call { callee := .builtin .append,args:=#[s,x],argTypes:=#[t,t] })
 {e:TypeId} {zs:List Value} {k bytes base:Nat} {g n c:Nat} {rows:List (List Value)} {z:Addr} {m A:Nat} {news:List (List Value)}
 (E:P.underlying t=some (.slice e)) (d:BT P e zs k bytes) (D:f.eval s = .slice (some ⟨g,0,none⟩) n c) (j:EL w base e k g n c rows) (F:f.eval x = .slice (some z) m A) (y:SlK w k (some z) m A news)
 (h1:∀ r∈news,∀ u∈r,u.oneCell'=true) (v:nuR news) (i:n+m<=c) (a:(n+m)*bytes<=140737488355328) (b:base<=w.heap.size)
 (h:∀ p,EL p base e k g (n+m) c (rows ++ news)->w.grownBy p (some g)->wpList P ops Q rest (f.put o.dst (.slice (some ⟨g,0,none⟩) (n+m) c)) p) :
 wpList P ops Q (o :: rest) f w:=by
 refine iI q fun _ B => ?_;obtain⟨p,l,h2,h3⟩:=SN (P:=P) (ty:=o.type) E d j y h1 v i a b;unfold Oper.wp execOp;simp only[C,resolve,invoke,builtin,gI,gS,p9,jo,iz,jg,D,F,l];exact B _ _ (h p h2 h3)
theorem AP.noU(h:AP w base e k (some ⟨g,0,none⟩) n n rows)(l:nuR rows):NoU w g:=by
 rcases h.2.2 with⟨b,_⟩|⟨q,d,a,b,s,f,m,v,p,c⟩
 · simp at b
 simp only[pk,oQ,ic,iY,lh]at b;obtain⟨rfl,rfl⟩:=b;intro j i he;rw[nC w g _ a e (0,0) f]at he;have t:j<a.size:=(gW.1 he).1;have h2:a.toList=rows.flatten:=by rw[<-c,oL (by simp[p])]
 have h3:rows.flatten[j]?=some (.int .u64 i):=by rw[<-h2];simpa using he
 obtain⟨r,o,hu⟩:=ld.1 (gY h3);exact l r o _ hu i rfl
theorem PN{c:Operand}(H:o.guard=none)(x:o.op=Op.makeSlice t l c)
 {e:TypeId} {zs:List Value} {k bytes n:Nat} (A:P.underlying t=some (.slice e)) (a:BT P e zs k bytes) (y:∀ v∈zs,∀ i,v ≠ .int .u64 i) (I:f.eval l = .int .i64 0) (G:f.eval c = .int .i64 n)
 (F:bytes*n<=281474976710656) (h63:n<=maxLen)
 (D:∀ j,EL j w.heap.size e k w.heap.size 0 n []->Ext w j->wpList P ops Q rest (f.put o.dst (.slice (some ⟨w.heap.size,0,none⟩) 0 n)) j) :
 wpList P ops Q (o :: rest) f w:=by
 refine iI H fun K q => ?_;obtain⟨i,z,B,b,p⟩:=a.parts;obtain⟨j,g,h2,h3⟩:=run_make_own (P:=P) w w.heap.size t e i (.agg zs.toArray) k A z B b .i64 .i64 n (by rw[p];exact F) h63 (lrf _);have m:(n:Int)<=9223372036854775807:=by
  have h:=h63;simp[maxLen]at h;omega
 have s:(i.bytes:Int)*(n:Int)<=281474976710656:=by
  rw[p];have h:((bytes*n:Nat):Int)<=281474976710656:=by omega
  rwa[gH]at h
 have d:=run_make (P:=P) w t e i (.agg zs.toArray) A z B .i64 .i64 0 n (Int.le_refl _) (by omega) s m;simp only[Int.toNat_zero,jf]at d;rw[g]at d;simp only[Result.ok.injEq,lh]at d;have h4:(Value.agg zs.toArray).cells=zs.toArray:=rfl;have C:Arr j w.heap.size e (List.replicate n zs).flatten:=by
  have h5:=K6 (n:=n) a.2.1 a.2.2;rw[d,b,h4];unfold Arr;rw[<-h5];exact nw w _
 have E:NoU j w.heap.size:=C.noU (fun v J i=>by
  obtain⟨r,d,hu⟩:=ld.1 J;rw[(ir.1 d).2]at hu
  exact y v hu i)
 unfold Oper.wp execOp;simp only[x,gI,gS,p9,I,G,g,Oper.upon];exact q _ _ (D j ⟨⟨(fun r d=>by cases d),h2⟩,E⟩ ((Ext.refl w).grown h3 (by simp)))
end
abbrev Tx:=List UInt8×List Int
def tm0:Tx:=([],[])
def Q2(w:World)(row:List Value)(t:Tx):Prop:=∃ s a n c,row=[.string s,.slice a n c]/\Al s=t.1/\SlI w a n c t.2
theorem Q2.ext{w b:World}{row:List Value}{t:Tx}(h:Q2 w row t)(e:Ext w b):Q2 b row t:=by
 obtain⟨s,a,n,c,h1,h2,h3⟩:=h;exact⟨s,a,n,c,h1,h2,h3.ext e⟩
def Be(w:World)(a:Option Addr)(n c:Nat)(ts:List Tx):Prop:=∃ rows,SlK w 2 a n c rows/\ts.length=n/\∀ i,i<n->Q2 w (rows.getD i []) (ts.getD i tm0)
theorem Be.ext{w d:World}{a:Option Addr}{n c:Nat}{ts:List Tx}(h:Be w a n c ts)(e:Ext w d):Be d a n c ts:=by
 obtain⟨b,h1,h2,h3⟩:=h;exact⟨b,h1.ext e,h2,fun i f=>(h3 i f).ext e⟩
theorem Be.len{ts:List Tx}(h:Be w a n c ts):ts.length=n:=by
 obtain⟨b,h1,h2,h3⟩:=h;exact h2
theorem CI:Agg prog 26 2:=⟨by kernel_rfl,by kernel_rfl⟩
theorem An:Agg prog 28 2:=⟨by kernel_rfl,by kernel_rfl⟩
def tmL(s:ByteArray)(a:Option Addr)(n c:Nat):List Value:=[.string s,.slice a n c]
theorem Fr(s:ByteArray)(a:Option Addr)(n c:Nat):∀ v∈tmL s a n c,v.oneCell'=true:=by
 intro v b;simp only[tmL,gV,jN,me]at b;rcases b with rfl|rfl <;> rfl
theorem C6{t:Tx}(h:(AQ vars t).isSome=true):(t.2.length:Int)=vars/\∀ e∈t.2,0<=e/\e<=1048576:=by
 unfold AQ at h;split at h
 · simp at h
 · split at h
   · rename_i h1;exact⟨h1.2.1,h1.2.2⟩
   · simp at h
def z6:Pl.Tm:=([0,0,0,0,0,0],0)
def okT(vars:Int)(ts:List Tx)(k:Nat):Prop:=(∀ i,i<k->(AQ vars (ts.getD i tm0)).isSome=true)/\∀ i,i+1<k->0<Pl.ordE (ts.getD i tm0).2 (ts.getD (i+1) tm0).2
open Classical in
noncomputable def rdWF (vars:Int) (ts:List Tx):Option (List Pl.Tm):=if 0<=vars/\vars<=6/\okT vars ts ts.length then some (ts.map (fun t=>(AQ vars t).getD z6))else none
def V8(w:World)(o:Option (List Pl.Tm))(e:Ending)(w':World):Prop:=∃ a n c,e = .returned (.tuple #[.slice a n c,.bool o.isSome])/\Ext w w'/\BJ w' a n c (o.getD [])
theorem BJ.nil(w:World):BJ w none 0 0 []:=⟨[],SlK.nil w 10,rfl,fun i a=>absurd a (by omega)⟩
theorem BV.keptU{w i:World}{row:List Value}{t:Pl.Tm}{g:Nat}(h:BV w row t)(e:NoU w g)(f:w.grownBy i (some g)):BV i row t:=by
 obtain⟨s,a,n,c,b,m,d,h1,h2,r,j,q,l,k,p,o,h3,h4,h5,h6⟩:=h;exact⟨s,a,n,c,b,m,d,h1,h2,r,j,q,l,k,p,o,h3,h4,h5.keptU e f,h6.keptU e f⟩
theorem Cj{row:List Value}(h:Arr w g t row)(b:row.length=k):SlK w k (some ⟨g,0,none⟩) 1 1 [row]:=by
 refine⟨rfl,lrf _,by unfold maxLen;omega,by simpa using b,fun _=>⟨g,0,rfl,fun i c j d => ?_⟩⟩;have a:i=0:=by omega
 subst a;rw[pw,gL];rw[h.cell (by omega)];rfl
theorem Nk{ts:List Tx}(hT:AV w)(h:Be w a n c ts)(hs:∀ t∈ts,t.1.length<=570)(hn:n<=4096) :
 Calls prog 89 #[.agg #[.int .i64 vars,.slice a n c]] w (V8 w (rdWF vars ts)):=by
 have HS:=qh hs;clear hs;have R:=h.len;obtain⟨b5,hS,_,hq⟩:=h;have HQ:=qh hq;clear hq;obtain⟨r,hr⟩:∃ r,rdWF vars ts=r:=⟨_,rfl⟩;rw[hr];have HR:=qh hr;clear hr;by_cases hv:0<=vars/\vars<=6
 · obtain⟨aX,aK⟩:=hv
   go_enter func89,ntmps89
   go_upto_region 1 with(fail)
   refine AM ?_;intro w0 G T ay;have u0:=T.c 0 rfl;have u1:=T.c 1 rfl;clear T ay
   go_upto_region 4 with(refine PN rfl rfl (by kernel_rfl) Cr Bo rfl rfl (by omega) (by unfold maxLen;omega) ?_;intro w1 aP aE)
   have v1:=aE.cell u1;go_wp2
   go_loopw[4,24] (fun tv iv wr=>∃ (k:Nat) (rs:List (List Value)),tv = .slice (some ⟨w0.heap.size,0,none⟩) k n/\iv = .int .i64 k/\k<=n/\Ext w0 wr/\EL wr w0.heap.size 92 10 w0.heap.size k n rs/\Hid (okT vars ts k)/\Hid (∀ i,i<k->BV wr (rs.getD i []) ((AQ vars (ts.getD i tm0)).getD z6))) (fun _ iv _=>n-(intOf iv).toNat)
   case atStart=>exact⟨0,[],rfl,rfl,oY _,aE,aP,qh ⟨fun i E=>absurd E (by omega),fun i E=>absurd E (by omega)⟩,qh (fun i E=>absurd E (by omega))⟩
   case round =>
    obtain⟨k,rs,rfl,rfl,hk,hE,hO,HK,HC⟩:=hrel;by_cases aq:k<n
    · have aO:=G.trans hE;have U:=hS.ext aO;obtain⟨b,aZ,rfl,a8⟩:=U.rd (by omega);obtain⟨s,ax,nx,cx,K,aw,aY⟩:=HQ.out k aq;have hY:=Arr.new wr 26 (tmL ⟨#[]⟩ none 0 0)
      go_upto_region 7 with(first
       | (refine Bz rfl rfl CI rfl U aq ?_;rw[K])
       | (refine Aa (vs:=tmL s ax nx cx) rfl rfl rfl rfl rfl CI hY rfl (Fr _ _ _ _) ?_;intro w2 a4 aI))
      have a5:Ext wr w2:=((Ext.refl wr).alloc _).grownR aI (lrf _);have J:=hE.trans a5;have aF:=hO.ext a5;have aB:Hid (∀ i,i<k->BV w2 (rs.getD i []) ((AQ vars (ts.getD i tm0)).getD z6)):=qh fun i E=>(HC.out i E).ext a5;have v0:=J.cell u0;have v1:=J.cell u1;have hX:w0.heap.size<wr.heap.size:=hO.lt.2;have ab:=aY.ext (G.trans J);have aQ:=qh aw;have aW:s.size<=570:=by
       rw[<-Ax,aw];exact HS.out _ (by simp[R,aq])
      clear hY aI hO HC hE a5 K aw a8 U;generalize wr.heap.size=X at *
      have y0:=a4.c 0 rfl;have y1:=a4.c 1 rfl;have av:=Ko (vars:=vars) (hT.ext (G.trans J)) aW ab aK;have aN:Hid (AQ vars (Al s,(ts.getD k tm0).2)=AQ vars (ts.getD k tm0)):=qh (by rw[aQ.out]);rw[aN.out]at av;have aD:=qh av;clear av
      go_wp2_with fail
      refine aD.out.mono ?_;rintro e w3 ⟨ba,rfl,ah,q,d,p,g,f,m,l,K,h6,ar⟩;obtain⟨o,HO⟩:∃ o,Hid (AQ vars (ts.getD k tm0)=o):=⟨_,qh rfl⟩;rw[HO.out]at h6 K ar |-;obtain⟨y,z,A,B,C,D,ag⟩:=Cs h6;rw[ag]at K;have aC:Hid (BV w3 (Ap [y,z,A,B,C,D] q d p g f m l) (o.getD ([0,0,0,0,0,0],0))):=qh ⟨q,d,p,g,f,m,l,by rw[ag],h6,ar⟩;subst K;clear ag h6 ar
      have Q:(Ap [y,z,A,B,C,D] q d p g f m l).toArray=#[.int .i64 y,.int .i64 z,.int .i64 A,.int .i64 B,.int .i64 C,.int .i64 D,.bool q,.slice d p g,.bool false,.slice f m l]:=rfl;have hY:=Arr.new w3 92 (Ap ze false none 0 0 none 0 0)
      go_upto_region 8 with(refine Aa (vs:=Ap [y,z,A,B,C,D] q d p g f m l) rfl rfl rfl rfl rfl Au hY rfl AY ?_;intro L a7 aJ)
      have ai:Ext w3 L:=((Ext.refl w3).alloc _).grownR aJ (lrf _);have H:=ah.trans ai;have F:=J.trans H;have a6:=aF.ext H;have ac:Hid (∀ i,i<k->BV L (rs.getD i []) ((AQ vars (ts.getD i tm0)).getD z6)):=qh fun i E=>(aB.out i E).ext H;have M:Hid (BV L (Ap [y,z,A,B,C,D] q d p g f m l) (o.getD ([0,0,0,0,0,0],0))):=qh (aC.out.ext ai);have q1:=H.cell v1;have z1:=H.cell y1;have b7:X<w3.heap.size:=(a4.ext ah).lt;have aL:=qh H;clear hY aJ aF aB ah ai aC Q v0 v1 y0 y1 J a4 H aD;generalize w3.heap.size=Y at *
      cases o with
      | none =>
       have HF:Hid (r=none):=qh (by
        rw[<-HR.out];unfold rdWF;rw[pf];rintro⟨_,_,h1,_⟩;have:=h1 k (by omega);rw[HO.out]at this
        simp at this)
       go_quiet (fail)
       go_wp2
       go_ret2
       rw[HF.out];exact⟨none,0,0,rfl,(G.trans F).drewN _,BJ.nil _⟩
      | some tm =>
       simp only[pg]at M;have am:=C6 (vars:=vars) (t:=ts.getD k tm0) (by rw[HO.out];rfl);have aT:=ab.len;by_cases aR:k=0
       · subst aR;have af:Hid (okT vars ts (0+1)):=qh ⟨fun i E=>by rw[show i=0 by omega,HO.out];rfl,fun i E=>absurd E (by omega)⟩
         go_quiet (fail)
         have al:Arr (L.drewN nq) Y 92 (Ap [y,z,A,B,C,D] q d p g f m l):=a7;have N:=F.drewN nq;have a1:=a6.ext ((Ext.refl L).drewN nq);have ad:Hid (∀ i,i<0->BV (L.drewN nq) (rs.getD i []) ((AQ vars (ts.getD i tm0)).getD z6)):=qh fun i E=>absurd E (by omega);have Z:Hid (BV (L.drewN nq) (Ap [y,z,A,B,C,D] q d p g f m l) tm):=qh (M.out.ext ((Ext.refl L).drewN nq));clear a7 F a6 ac M q1 z1;generalize L.drewN nq=O at *
         have ak:Arr O Y 92 (Ap [y,z,A,B,C,D] q d p g f m l):=al;have I:Ext O (O.alloc (.cells (Ap [y,z,A,B,C,D] q d p g f m l).toArray 92)):=(Ext.refl O).alloc _;have hA5:=a1.ext I;have a0:=Cj (k:=10) (Arr.new O 92 (Ap [y,z,A,B,C,D] q d p g f m l)) rfl;have Q:(Ap [y,z,A,B,C,D] q d p g f m l).toArray=#[.int .i64 y,.int .i64 z,.int .i64 A,.int .i64 B,.int .i64 C,.int .i64 D,.bool q,.slice d p g,.bool false,.slice f m l]:=rfl
         have a2:w0.heap.size<=(O.alloc (.cells (Ap [y,z,A,B,C,D] q d p g f m l).toArray 92)).heap.size:=(N.trans I).size;rw[Q]at hA5 a0 a2;have ae:=qh (N.trans I);have V:Hid (∀ i,i<0->BV (O.alloc (.cells (Ap [y,z,A,B,C,D] q d p g f m l).toArray 92)) (rs.getD i []) ((AQ vars (ts.getD i tm0)).getD z6)):=qh fun i E=>(ad.out i E).ext I;have W:Hid (BV (O.alloc (.cells (Ap [y,z,A,B,C,D] q d p g f m l).toArray 92)) (Ap [y,z,A,B,C,D] q d p g f m l) tm):=qh (Z.out.ext I)
         have aa:Agg prog 92 (Ap [y,z,A,B,C,D] q d p g f m l).length:=Au
         go_wp2_with(first
          | (refine EM rfl rfl aa rfl ak ?_;rw[Q])
          | (refine L7 rfl rfl (by kernel_rfl) Cr rfl hA5 rfl a0 (by intro r hr u hu;rw[oZ.1 hr]at hu;exact AY u hu) (by intro r hr u hu;rw[oZ.1 hr]at hu;exact Bo u hu) (by omega) (by omega) a2 ?_;intro w7 aj P))
         go_roundw
         case rel =>
          refine⟨0+1,_,rfl,by go_num,by omega,ae.out.grownR P (lrf _),aj,af,qh fun i E => ?_⟩;have au:=a1.1.len (by omega);by_cases ao:i=0
          · subst ao;rw[HO.out,pg,gqq,gN (by omega),au,jt];exact W.out.keptU hA5.2 P
          · rw[gqq,gF (by omega),<-gqq];exact(V.out i (by omega)).keptU hA5.2 P
         case measure=>simp[intOf];omega
       · have U:=hS.ext (G.trans F);obtain⟨b2,b4,aG,a8⟩:=U.rd (by omega);simp only[oQ,ic,iY]at aG;obtain⟨rfl,rfl⟩:=aG;obtain⟨j,rfl⟩:∃ j,k=j+1:=⟨k-1,by omega⟩;obtain⟨sp,ap,np,cp,az,_,a9⟩:=HQ.out j (by omega);have aH:=C6 (vars:=vars) (t:=ts.getD j tm0) (HK.out.1 j (by omega));have aU:=a9.len;have an:=a8 j (by omega) 1 (by omega);rw[az]at an;have aM:L.cell? ⟨b,aZ+j*2+1,none⟩=some (.slice ap np cp):=an;have aV:np=nx:=by omega
         subst aV;have b9:IntKind.i64.wrap (((j+1:Nat):Int)-1)=(j:Int):=by rw[show((j+1:Nat):Int)-1=(j:Int) by omega];exact oP _ (by omega)
         have S:=fun(wx:World) (hq:Ext L wx)=>qh (J2 ((a9.ext (G.trans F)).ext hq) (ab.ext ((Ext.refl _).trans (aL.out.trans hq))) (by omega) (fun x hx=>by have:=aH.2 x hx;omega) (fun x hx=>by have:=am.2 x hx;omega));have HB:=qh am;have b6:=qh a9;obtain⟨v,HV⟩:∃ v,Hid (Pl.ordE (ts.getD j tm0).2 (ts.getD (j+1) tm0).2=v):=⟨_,qh rfl⟩;rw[HV.out]at S;clear a8 an U am aH aT aU a9 az;have b8:(0:Int)<((j+1:Nat):Int):=by omega
         by_cases aA:0<v
         · have af:Hid (okT vars ts (j+1+1)):=qh ⟨fun i E=>by
            by_cases h:i=j+1
            · rw[h,HO.out];rfl
            · exact HK.out.1 i (by omega),fun i E=>by
            by_cases h:i=j
            · rw[h,HV.out];exact aA
            · exact HK.out.2 i (by omega)⟩
           go_quiet (exact lH (S _ ((Ext.refl L).drewN _)).out)
           have al:Arr (L.drewN nq) Y 92 (Ap [y,z,A,B,C,D] q d p g f m l):=a7;have N:=F.drewN nq;have a1:=a6.ext ((Ext.refl L).drewN nq);have ad:Hid (∀ i,i<j+1->BV (L.drewN nq) (rs.getD i []) ((AQ vars (ts.getD i tm0)).getD z6)):=qh fun i E=>(ac.out i E).ext ((Ext.refl L).drewN nq);have Z:Hid (BV (L.drewN nq) (Ap [y,z,A,B,C,D] q d p g f m l) tm):=qh (M.out.ext ((Ext.refl L).drewN nq));clear a7 F a6 ac M q1 z1 S aM;generalize L.drewN nq=O at *
           have ak:Arr O Y 92 (Ap [y,z,A,B,C,D] q d p g f m l):=al;have I:Ext O (O.alloc (.cells (Ap [y,z,A,B,C,D] q d p g f m l).toArray 92)):=(Ext.refl O).alloc _;have hA5:=a1.ext I;have a0:=Cj (k:=10) (Arr.new O 92 (Ap [y,z,A,B,C,D] q d p g f m l)) rfl;have Q:(Ap [y,z,A,B,C,D] q d p g f m l).toArray=#[.int .i64 y,.int .i64 z,.int .i64 A,.int .i64 B,.int .i64 C,.int .i64 D,.bool q,.slice d p g,.bool false,.slice f m l]:=rfl
           have a2:w0.heap.size<=(O.alloc (.cells (Ap [y,z,A,B,C,D] q d p g f m l).toArray 92)).heap.size:=(N.trans I).size;rw[Q]at hA5 a0 a2;have ae:=qh (N.trans I);have V:Hid (∀ i,i<j+1->BV (O.alloc (.cells (Ap [y,z,A,B,C,D] q d p g f m l).toArray 92)) (rs.getD i []) ((AQ vars (ts.getD i tm0)).getD z6)):=qh fun i E=>(ad.out i E).ext I;have W:Hid (BV (O.alloc (.cells (Ap [y,z,A,B,C,D] q d p g f m l).toArray 92)) (Ap [y,z,A,B,C,D] q d p g f m l) tm):=qh (Z.out.ext I)
           have aa:Agg prog 92 (Ap [y,z,A,B,C,D] q d p g f m l).length:=Au
           go_wp2_with(first
            | (refine EM rfl rfl aa rfl ak ?_;rw[Q])
            | (refine L7 rfl rfl (by kernel_rfl) Cr rfl hA5 rfl a0 (by intro r hr u hu;rw[oZ.1 hr]at hu;exact AY u hu) (by intro r hr u hu;rw[oZ.1 hr]at hu;exact Bo u hu) (by omega) (by omega) a2 ?_;intro w7 aj P))
           go_roundw
           case rel =>
            refine⟨j+1+1,_,rfl,by go_num,by omega,ae.out.grownR P (lrf _),aj,af,qh fun i E => ?_⟩;have au:=a1.1.len (by omega);by_cases ao:i=j+1
            · subst ao;rw[HO.out,pg,gqq,gN (by omega),au,jt];exact W.out.keptU hA5.2 P
            · rw[gqq,gF (by omega),<-gqq];exact(V.out i (by omega)).keptU hA5.2 P
           case measure=>simp[intOf];omega
         · have HF:Hid (r=none):=qh (by
            rw[<-HR.out];unfold rdWF;rw[pf];rintro⟨_,_,_,h1⟩;have:=h1 j (by omega);rw[HV.out]at this
            exact aA this)
           go_quiet (exact lH (S _ ((Ext.refl L).drewN _)).out)
           go_wp2
           go_ret2
           rw[HF.out];exact⟨none,0,0,rfl,(G.trans F).drewN _,BJ.nil _⟩
    · have aS:k=n:=by omega
      subst aS
      have HF:Hid (r=some (ts.map (fun t=>(AQ vars t).getD z6))):=qh (by
       rw[<-HR.out];unfold rdWF
       rw[pq ⟨aX,aK,by rw[R];exact HK.out⟩])
      go_wp2
      go_ret2
      rw[HF.out];refine⟨_,_,_,rfl,G.trans hE,rs,hO.1.slk (by omega),by simp[R],fun i E => ?_⟩;have h1:=HC.out i E;have h2:(ts.map (fun t=>(AQ vars t).getD z6)).getD i ([],0)=(AQ vars (ts.getD i tm0)).getD z6:=by simp[R,E]
      rw[pg,h2];exact h1
 · have HF:Hid (r=none):=qh (by
    rw[<-HR.out];unfold rdWF
    rw[pf (fun h=>hv ⟨h.1,h.2.1⟩)])
   go_enter func89,ntmps89
   go_upto_region 1 with(fail)
   refine AM ?_;intro w0 G T ay;have u0:=T.c 0 rfl;clear T ay;by_cases b1:vars<0
   · clear hv;go_wp2
     go_ret2
     rw[HF.out];exact⟨none,0,0,rfl,G,BJ.nil _⟩
   · have b0:6<vars:=by omega
     clear hv;go_wp2
     go_ret2
     rw[HF.out];exact⟨none,0,0,rfl,G,BJ.nil _⟩
theorem Ct:Hc prog 90 3:=⟨by kernel_rfl,by kernel_rfl,by kernel_rfl⟩
theorem F4:prog.underlying 184=some (.map 90 85):=by kernel_rfl
theorem Rd:Agg prog 90 6:=⟨by kernel_rfl,by kernel_rfl⟩
theorem GN(k:List Int):∀ (m:List (List Int×Value)) (i:Nat),Cy k i m=Pl.posK k i m
 | [],_=>rfl
 | (k',v) :: r,i=>by unfold Cy Pl.posK;rw[GN k r (i+1)]
theorem PZ(z:Value)(m:List (List Int×Value))(k:List Int):JK z m k=Pl.getK z m k:=by unfold JK Pl.getK;rw[GN]
theorem Re(m:List (List Int×Value))(k:List Int)(v:Value):M2 m k v=Pl.putK m k v:=by
 unfold M2 Pl.putK;rw[GN];cases Pl.posK k 0 m <;> rfl
theorem Bm.noU(h:Bm w r m):NoU w r:=by
 intro j i e;simp[World.cell?,h.obj]at e
theorem A1.noU(h:A1 w it r n seen):NoU w it:=by
 intro j i e;unfold A1 at h;simp[World.cell?,h]at e
theorem CU.keptU{w i:World}{cs:List Value}{q:Rat}{g:Nat}(h:CU w cs q)(e:NoU w g)(f:w.grownBy i (some g)):CU i cs q:=by
 obtain⟨s,a,n,c,b,m,d,h3,h4,h5,h6⟩:=h;exact⟨s,a,n,c,b,m,d,h3,h4,h5.keptU e f,h6.keptU e f⟩
theorem BL.keptU{w a:World}{v:Value}{q:Rat}{g:Nat}(h:BL w v q)(c:NoU w g)(d:w.grownBy a (some g)):BL a v q:=by
 obtain⟨b,h1,h2⟩:=h;exact⟨b,h1,h2.keptU c d⟩
def DO(w:World)(r:Nat)(l:List Pl.Tm):Prop:=∃ m,Bm w r m/\Pl.RelL (fun v q=>BL w v q) m l
section
variable {w w':World} {r:Nat} {l:List Pl.Tm}
theorem DO.ext(h:DO w r l)(e:Ext w w'):DO w' r l:=by
 obtain⟨m,h1,h2⟩:=h;exact⟨m,h1.ext e,h2.mono fun _ _ h=>h.ext e⟩
theorem DO.keptU{g:Nat}(h:DO w r l)(c:NoU w g)(b:w.grownBy w' (some g))(a:r≠g):DO w' r l:=by
 obtain⟨m,h1,h2⟩:=h;exact⟨m,h1.kept b (by simpa using a),h2.mono fun _ _ h=>h.keptU c b⟩
theorem DO.nodup(h:DO w r l):(l.map (·.1)).Nodup:=by
 obtain⟨m,h1,h2⟩:=h;rw[<-h2.keys];exact h1.nodup
theorem DO.six(h:DO w r l):∀ t∈l,t.1.length=6:=by
 obtain⟨m,h1,h2⟩:=h;intro t a;have h3:t.1∈m.map (·.1):=by rw[h2.keys];exact jl a
 obtain⟨p,hp,e⟩:=gT.1 h3;rw[<-e];exact h1.six p hp
theorem DO.lt(h:DO w r l):r<w.heap.size:=by
 obtain⟨m,h1,_⟩:=h;exact h1.lt
theorem DO.new(h:Bm w r []):DO w r []:=⟨[],h,trivial⟩
end
def Rf:Value := .agg #[.bool false,.slice none 0 0,.bool false,.slice none 0 0]
theorem Rg(w:World):BL w Rf 0:=⟨_,rfl,Ee w⟩
theorem NC(w:World):(zeroValue 85).run prog w = .ok Rf w:=Tryz.zeroValue85 w
theorem P0{a:Operand->Value}(d:o.op = .lookup mt x y false)(c:P.underlying mt=some (.map kt vt))(b:Hc P kt et){z:Value}(g:∀ w,(zeroValue vt).run P w = .ok z w)
 {r:Nat} {m:List (List Int×Value)} {k:List Int} (e:a x = .map (some r)) (f:a y=Ce k) (h:Bm w r m) (h6:k.length=6):(execOp a o).run P w = .ok (.value (JK z m k)) w:=by
 unfold execOp;simp only[d,e,f,gI,Oy c b (g w) h h6 false,p9,gS];rfl
def Em(w:World)(base:Nat)(a:Option Addr)(n c:Nat)(l:List Pl.Tm):Prop:=∃ rows,AP w base 92 10 a n c rows/\(∀ g,blk a=some g->NoU w g)/\l.length=n/\∀ i,i<n->BV w (rows.getD i []) (l.getD i ([],0))
section
variable {w w':World} {base:Nat} {a:Option Addr} {n c:Nat} {l:List Pl.Tm}
theorem Em.sl(h:Em w base a n c l):BJ w a n c l:=by
 obtain⟨b,h1,h2,h3,h4⟩:=h;exact⟨b,h1.slk (by omega),h3,h4⟩
theorem Em.ext(h:Em w base a n c l)(e:Ext w w'):Em w' base a n c l:=by
 obtain⟨b,h1,h2,h3,h4⟩:=h;exact⟨b,h1.ext e,fun g d=>(h2 g d).ext (h1.lt d).2 e,h3,fun i f=>(h4 i f).ext e⟩
theorem Em.len(h:Em w base a n c l):l.length=n:=by
 obtain⟨b,h1,h2,h3,h4⟩:=h;exact h3
theorem Em.nil(w:World)(base:Nat):Em w base none 0 0 []:=⟨[],AP.nil _ _ _ _,(fun g a=>by simp[blk]at a),rfl,fun i b=>absurd b (by omega)⟩
theorem Em.mono{b:Nat}(h:Em w base a n c l)(e:b<=base):Em w b a n c l:=by
 obtain⟨d,h1,h2⟩:=h;exact⟨d,h1.mono e,h2⟩
end
def Ue(w:World)(l:List Pl.Tm)(e:Ending)(w':World):Prop:=∃ a n c,e = .returned (.slice a n c)/\Ext w w'/\Em w' w.heap.size a n c l
def Mm(w:World)(a:Option Addr)(n c:Nat)(ls:List (List Pl.Tm)):Prop:=∃ cs,Sl w a n c cs/\ls.length=n/\∀ i,i<n->∃ a' n' c',cs.getD i undef = .slice a' n' c'/\BJ w a' n' c' (ls.getD i [])
theorem Mm.ext{w b:World}{a:Option Addr}{n c:Nat}{ls:List (List Pl.Tm)}(h:Mm w a n c ls)(e:Ext w b):Mm b a n c ls:=by
 obtain⟨d,h1,h2,h3⟩:=h;exact⟨d,h1.ext e,h2,fun i f=>let ⟨a',n',c',h4,h5⟩:=h3 i f;⟨a',n',c',h4,h5.ext e⟩⟩
theorem BJ.len{l:List Pl.Tm}(h:BJ w a n c l):l.length=n:=by
 obtain⟨b,h1,h2,h3⟩:=h;exact h2
theorem P3{r':Nat}(h:Bm w r m)(hi:A1 w it r' k seen):r≠it:=by
 rintro rfl;unfold A1 at hi;rw[h.obj]at hi;cases hi
theorem IZ{N:Nat}(h:AP w base e k (some ⟨g,0,none⟩) n c rows)(hi:A1 w it r N seen):g≠it:=by
 rcases h.2.2 with⟨a,_⟩|⟨i,b,d,a,_,f,_⟩
 · simp at a
 · simp only[pk,oQ,ic,iY,lh]at a;rintro rfl;unfold A1 at hi;rw[a.1]at hi;rw[f]at hi;cases hi
theorem Ho(h:AP w base e k (some ⟨g,0,none⟩) n c rows)(hi:Bm w r m):g≠r:=by
 rcases h.2.2 with⟨a,_⟩|⟨i,b,d,a,_,f,_⟩
 · simp at a
 · simp only[pk,oQ,ic,iY,lh]at a;rintro rfl;have:=hi.obj;rw[a.1]at this;rw[f]at this;cases this
theorem P4{k:TypeId}(c:P.underlying mt=some (.map k e))(a:Bm w r m) :
 (Builtin.len_ #[mt] ty #[.map (some r)]).run P w = .ok (.int .i64 m.length) w:=by
 have b:(BS 0 m).toArray.size=m.length:=by simp[DH]
 rw[<-b];simp[Builtin.len_,ip c,run_getObj_map w r _ _ a.obj,goInt]
def OU(w:World)(it:Nat):Nat:=match w.heap[it]? with | some (.mapIter _ _ seen _)=>seen.size | _=>0
theorem I0(h:A1 w it r n seen):OU w it=seen.length:=by
 unfold OU;unfold A1 at h;rw[h];simp
end Go.Proofs.YtlbmnokpiilfpaaGreatDoor
namespace Go.Proofs.YtlbmnokpiilfpaaGreatDoor.Pl
variable {z:Int} {d k sa sb:Nat} {q:Rat}
def plE(a b:List Int):List Int:=List.zipWith (·+·) a b
def prodT(a b:List Tm):List Tm:=a.flatMap (fun s=>b.map (fun t=>(plE s.1 t.1,s.2*t.2)))
def zsc(q:Rat)(k:Nat):Int:=q.num*((k/q.den:Nat):Int)
theorem q_den(q:Rat):q*(q.den:Rat)=(q.num:Rat):=by
 have h:q=(q.num:Rat)/(q.den:Rat):=by rw[<-Rat.mkRat_eq_div,mz]
 have h0:(q.den:Rat)≠0:=by
  intro h;have:=mL.1 h;exact q.den_nz this
 conv=>lhs;lhs;rw[h]
 rw[Rat.div_mul_cancel h0]
theorem NE(h:q.den∣k):((zsc q k:Int):Rat)=q*(k:Rat):=by
 obtain⟨c,rfl⟩:=h;unfold zsc;rw[lN _ (iU q.den_nz),oH,<-q_den,kl];rw[iB];rfl
theorem WK{b d:Type}{f g:b->List d}:∀ {a:List b},(∀ x∈a,f x=g x)->a.flatMap f=a.flatMap g
 | [],_=>rfl
 | x :: r,h=>by rw[oI,oI,h x (by simp),WK (fun y c=>h y (by simp[c]))]
def prodZ(sa sb:Nat)(a b:List Tm):List Tm:=a.flatMap (fun s=>b.map (fun t=>(plE s.1 t.1,((zsc s.2 sa*zsc t.2 sb:Int):Rat))))
theorem W0{a b:List Tm}(c:∀ t∈a,t.2.den∣sa)(d:∀ t∈b,t.2.den∣sb):prodZ sa sb a b=scl ((sa:Rat)*(sb:Rat)) (prodT a b):=by
 unfold prodZ prodT scl;rw[List.map_flatMap];apply WK;intro s e;rw[lJ];apply mo;intro t f;simp only[Function.comp,lA,lh];rw[oH,NE (c s e),NE (d t f)]
 grind
theorem GO(z:Int)(d:Nat):mkRat z d=(z:Rat)*((d:Rat))⁻¹:=by
 rw[Rat.mkRat_eq_div,Rat.div_def]
theorem WV(d:Nat):∀ (l:List (List Int×Int)) (e:List Int),coef (l.map (fun f=>(f.1,mkRat f.2 d))) e=((d:Rat))⁻¹*coef (l.map (fun f=>(f.1,(f.2:Rat)))) e
 | [],e=>by simp[coef]
 | f :: r,e=>by
  simp only[iz,coef];rw[WV d r e,GO];by_cases h:f.1=e
  · simp only[pq h];grind
  · simp only[pf h];grind
theorem coef_done{a b:List Tm}{l:List (List Int×Int)}(c:∀ t∈a,t.2.den∣sa)(d:∀ t∈b,t.2.den∣sb)(h1:sa≠0)(h2:sb≠0)(g:∀ e,coef (l.map (fun f=>(f.1,(f.2:Rat)))) e=coef (prodZ sa sb a b) e)(e:List Int):coef (l.map (fun f=>(f.1,mkRat f.2 (sa*sb)))) e=coef (prodT a b) e:=by
 rw[WV,g,W0 c d,coef_scl,kl];have h3:(sa:Rat)≠0:=fun h=>h1 (mL.1 h);have h4:(sb:Rat)≠0:=fun h=>h2 (mL.1 h);have h5:(sa:Rat)*(sb:Rat)≠0:=fun h=>(oJ.1 h).elim h3 h4;rw[<-iB,Rat.inv_mul_cancel _ h5]
 grind
theorem coef_mem:∀ {l:List Tm} {t:Tm},(l.map (·.1)).Nodup->t∈l->coef l t.1=t.2
 | [],_,_,h=>by cases h
 | s :: r,t,hn,h=>by
  simp only[iz,kS]at hn;rcases gV.1 h with rfl|h
  · simp only[coef,kJ,JP hn.1];grind
  · have hne:s.1≠t.1:=fun e=>hn.1 (by rw[e];exact jl h);simp only[coef,pf hne,coef_mem hn.2 h];grind
theorem coef_int{B:Nat}(e:List Int):∀ {l:List Tm},(∀ t∈l,∃ c:Int,t.2=(c:Rat)/\c.natAbs<=B)->∃ z:Int,coef l e=(z:Rat)/\z.natAbs<=l.length*B
 | [],_=>⟨0,rfl,by simp⟩
 | t :: r,h=>by
  obtain⟨c,h1,h2⟩:=h t (by simp);obtain⟨z,h3,h4⟩:=coef_int e (l:=r) (fun s b=>h s (by simp[b]));by_cases a:t.1=e
  · refine⟨c+z,?_,?_⟩
    · simp only[coef,pq a,h1,h3,oc]
    · have:=mH c z;simp only[io,iy];omega
  · refine⟨z,?_,?_⟩
    · simp only[coef,pf a,h3];grind
    · simp only[io,iy];omega
theorem mkRat_zero(a:d≠0):mkRat z d=0<->z=0:=by
 rw[GO];constructor
 · intro h;rcases oJ.1 h with h|h
   · exact Rat.intCast_eq_zero_iff.1 h
   · exfalso;have h3:(d:Rat)≠0:=fun h=>a (mL.1 h);have:=lM _ h3;rw[h]at this
     grind
 · intro h;rw[h];grind
end Go.Proofs.YtlbmnokpiilfpaaGreatDoor.Pl
namespace Go.Proofs.YtlbmnokpiilfpaaGreatDoor
open Go.Shelf
def P5:Go.Shelf.Ren:=⟨fun | 6=>143 | 15=>206 | 14=>205 | 28=>252 | 29=>253 | 20=>244 | 21=>245 | 22=>246 | 23=>247 | 24=>248 | 25=>249 | 26=>250 | 27=>251 | 46=>294 | 47=>295 | 48=>296 | 49=>297 | 50=>298 | 57=>321 | n=>n,fun | 22=>80 | 24=>92 | 25=>183 | 3=>3 | 39=>222 | 0=>0 | 53=>241 | 55=>238 | 4=>4 | 46=>277 | 45=>276 | 50=>204 | 5=>5 | 9=>9 | 66=>309 | 70=>313 | 76=>333 | 77=>334 | n=>n,fun | n=>n⟩
theorem Uf:Go.Proofs.SlLaysF0.n6 Tryz.prog P5:={
 mixed:=by kernel_rfl
 f6:=⟨Tryz.f143.name,by decide,Tryz.func143.trans (gR some (by kernel_rfl))⟩
 f14:=⟨Tryz.f205.name,by decide,Tryz.func205.trans (gR some (by kernel_rfl))⟩
 f15:=Tryz.func206.trans (gR some (by kernel_rfl))
 f20:=⟨Tryz.f244.name,by decide,Tryz.func244.trans (gR some (by kernel_rfl))⟩
 f21:=⟨Tryz.f245.name,by decide,Tryz.func245.trans (gR some (by kernel_rfl))⟩
 f22:=⟨Tryz.f246.name,by decide,Tryz.func246.trans (gR some (by kernel_rfl))⟩
 f23:=⟨Tryz.f247.name,by decide,Tryz.func247.trans (gR some (by kernel_rfl))⟩
 f24:=⟨Tryz.f248.name,by decide,Tryz.func248.trans (gR some (by kernel_rfl))⟩
 f25:=⟨Tryz.f249.name,by decide,Tryz.func249.trans (gR some (by kernel_rfl))⟩
 f26:=⟨Tryz.f250.name,by decide,Tryz.func250.trans (gR some (by kernel_rfl))⟩
 f27:=⟨Tryz.f251.name,by decide,Tryz.func251.trans (gR some (by kernel_rfl))⟩
 f28:=Tryz.func252.trans (gR some (by kernel_rfl))
 f29:=Tryz.func253.trans (gR some (by kernel_rfl))
 f46:=⟨Tryz.f294.name,by decide,Tryz.func294.trans (gR some (by kernel_rfl))⟩
 f47:=Tryz.func295.trans (gR some (by kernel_rfl))
 f48:=Tryz.func296.trans (gR some (by kernel_rfl))
 f49:=⟨Tryz.f297.name,by decide,Tryz.func297.trans (gR some (by kernel_rfl))⟩
 f50:=⟨Tryz.f298.name,by decide,Tryz.func298.trans (gR some (by kernel_rfl))⟩
 f57:=⟨Tryz.f321.name,by decide,Tryz.func321.trans (gR some (by kernel_rfl))⟩
 t0:=Tryz.underlying0
 a0:=Tryz.isAgg0
 z0:=Tryz.sizeOf0
 v0:=Tryz.zeroValue0
 t3:=Tryz.underlying3
 a3:=Tryz.isAgg3
 z3:=Tryz.sizeOf3
 v3:=Tryz.zeroValue3
 t4:=Tryz.underlying4
 a4:=Tryz.isAgg4
 z4:=Tryz.sizeOf4
 v4:=Tryz.zeroValue4
 t5:=Tryz.underlying5
 a5:=Tryz.isAgg5
 z5:=Tryz.sizeOf5
 v5:=Tryz.zeroValue5
 t9:=Tryz.underlying9
 a9:=Tryz.isAgg9
 z9:=Tryz.sizeOf9
 v9:=Tryz.zeroValue9
 t22:=Tryz.underlying80
 a22:=Tryz.isAgg80
 z22:=Tryz.sizeOf80
 v22:=Tryz.zeroValue80
 t25:=Tryz.underlying183
 a25:=Tryz.isAgg183
 z25:=Tryz.sizeOf183
 v25:=Tryz.zeroValue183
 t39:=Tryz.underlying222
 a39:=Tryz.isAgg222
 z39:=Tryz.sizeOf222
 v39:=Tryz.zeroValue222
 t45:=Tryz.underlying276
 a45:=Tryz.isAgg276
 z45:=Tryz.sizeOf276
 v45:=Tryz.zeroValue276
 t46:=Tryz.underlying277
 a46:=Tryz.isAgg277
 z46:=Tryz.sizeOf277
 v46:=Tryz.zeroValue277
 t50:=Tryz.underlying204
 a50:=Tryz.isAgg204
 z50:=Tryz.sizeOf204
 v50:=Tryz.zeroValue204
 t53:=Tryz.underlying241
 a53:=Tryz.isAgg241
 z53:=Tryz.sizeOf241
 v53:=Tryz.zeroValue241
 t55:=Tryz.underlying238
 a55:=Tryz.isAgg238
 z55:=Tryz.sizeOf238
 v55:=Tryz.zeroValue238
 t66:=Tryz.underlying309
 a66:=Tryz.isAgg309
 z66:=Tryz.sizeOf309
 v66:=Tryz.zeroValue309
 t70:=Tryz.underlying313
 a70:=Tryz.isAgg313
 z70:=Tryz.sizeOf313
 v70:=Tryz.zeroValue313
 t76:=Tryz.underlying333
 a76:=Tryz.isAgg333
 z76:=Tryz.sizeOf333
 v76:=Tryz.zeroValue333
 t77:=Tryz.underlying334
 a77:=Tryz.isAgg334
 z77:=Tryz.sizeOf334
 v77:=Tryz.zeroValue334 }
end Go.Proofs.YtlbmnokpiilfpaaGreatDoor
namespace Go.Proofs.YtlbmnokpiilfpaaGreatDoor
open Tryz Go Go.RowKit Go.Sort
variable {s s':Bool} {rows:List (List Value)} {e te te':List Int} {base c d g m n:Nat} {a a' b b':Option Addr} {t:TypeId} {w:World}
def EV:Type:={ p:List Value×Pl.Tm // (∃ s a n c b m d,p.1=Ap p.2.1 s a n c b m d)/\p.2.1.length=6/\∀ x∈p.2.1,0<=x/\x<=1099511627776 }
def EV.enc(v:EV):List Value:=v.1.1
def EV.tm(v:EV):Pl.Tm:=v.1.2
instance : Inhabited EV:=⟨⟨(Ap ze false none 0 0 none 0 0,(ze,0)),⟨false,none,0,0,none,0,0,rfl⟩,rfl,by simp[ze]⟩⟩
theorem EV.len(v:EV):v.enc.length=10:=by
 obtain⟨⟨r,t⟩,⟨s,a,n,c,b,m,d,h⟩,h6,_⟩:=v;show r.length=10;rw[show r=_ from h,B8,h6]
theorem EV.one(v:EV):∀ u∈v.enc,u.oneCell'=true:=by
 obtain⟨⟨r,t⟩,⟨s,a,n,c,b,m,d,h⟩,h6,_⟩:=v;intro u hu;have:r=Ap t.1 s a n c b m d:=h;subst this;exact AY u hu
theorem EV.nu(v:EV):∀ u∈v.enc,∀ i,u ≠ .int .u64 i:=by
 obtain⟨⟨r,t⟩,⟨s,a,n,c,b,m,d,h⟩,h6,_⟩:=v;intro u hu;have:r=Ap t.1 s a n c b m d:=h;subst this;exact Bo u hu
theorem EV.six(v:EV):v.tm.1.length=6:=v.2.2.1
def cfE(x y:EV):Int:=Pl.ordE y.tm.1 x.tm.1
theorem Mn{x y:EV}(h:ltOf cfE x y=true):cfE x y<0:=kC h
theorem GP{x y:EV}(h:ltOf cfE x y=false):¬ cfE x y<0:=of_decide_eq_false h
theorem We:SWO (ltOf cfE) where
 irrefl x:=pb (by unfold cfE;rw[Pl.ordE_self];omega)
 trans x y z h1 h2:=by
  have e:=Mn h1;have d:=Mn h2;unfold cfE at e d;have f:=Pl.ordE_anti x.tm.1 y.tm.1;have g:=Pl.ordE_anti y.tm.1 z.tm.1;have i:=Pl.ordE_anti x.tm.1 z.tm.1;have:=Pl.ordE_trans (a:=x.tm.1) (b:=y.tm.1) (c:=z.tm.1) (by omega) (by omega);exact gX (by unfold cfE;omega)
 ntrans x y z h1 h2:=by
  have e:=GP h1;have d:=GP h2;unfold cfE at e d;refine pb ?_;unfold cfE;intro h3;have f:=Pl.ordE_anti x.tm.1 y.tm.1;have g:=Pl.ordE_anti y.tm.1 z.tm.1;have i:=Pl.ordE_anti x.tm.1 z.tm.1;by_cases h:Pl.ordE y.tm.1 x.tm.1=0
  · rw[Pl.ordE_eq (by rw[x.six,y.six]) h]at d;omega
  · have:=Pl.ordE_trans (a:=y.tm.1) (b:=x.tm.1) (c:=z.tm.1) (by omega) (by omega);omega
theorem Mo(w:World)(A B:Obj)(n:Nat):((w.alloc A).alloc B).drewN n=grow (w.drewN n) #[A,B]:=by
 rw[alloc_eq_grow,alloc_eq_grow,grow_grow];rfl
theorem Lk(h:Arr w g t (Ap e s a n c b m d))(h6:e.length=6):SlI w (some ⟨g,0,none⟩) 6 6 e:=by
 refine⟨by simpa using h6,lrf _,by unfold maxLen;omega,fun _=>⟨g,0,rfl,fun i f => ?_⟩⟩;rw[gL,h.cell (by rw[B8];omega)];have h1:(Ap e s a n c b m d).getD i undef=(e.map (Value.int .i64)).getD i undef:=by
  unfold Ap;rw[gqq,gF (by simp;omega),<-gqq]
 rw[h1]
theorem NF{o c' l f:Nat}(h6:te.length=6)(I:te'.length=6)(M:∀ x∈te,0<=x/\x<=1099511627776)(g:∀ x∈te',0<=x/\x<=1099511627776) :
 Calls prog 144 #[.agg (Ap te s a n c b m d).toArray,.agg (Ap te' s' a' o c' b' l f).toArray] w fun e R=>e = .returned (.int .i64 (Pl.ordE te' te))/\∃ q Q,R=grow (w.drewN q) Q:=by
 have K:=fun(O:World) (h1:SlI O (some ⟨w.heap.size+1,0,none⟩) 6 6 te') (h2:SlI O (some ⟨w.heap.size,0,none⟩) 6 6 te)=>qh (J2 h1 h2 (by omega) (fun z J=>by have:=g z J;omega) (fun z J=>by have:=M z J;omega));obtain⟨V,L⟩:∃ V,Pl.ordE te' te=V:=⟨_,rfl⟩;rw[L]at K |-;clear M g L;obtain⟨p,r,t,v,y,A,P⟩:=Cs h6;obtain⟨B,C,D,E,F,G,H⟩:=Cs I;subst P;subst H
 have N:(Ap [p,r,t,v,y,A] s a n c b m d).toArray=#[.int .i64 p,.int .i64 r,.int .i64 t,.int .i64 v,.int .i64 y,.int .i64 A,.bool s,.slice a n c,.bool false,.slice b m d]:=rfl;have i:(Ap [B,C,D,E,F,G] s' a' o c' b' l f).toArray=#[.int .i64 B,.int .i64 C,.int .i64 D,.int .i64 E,.int .i64 F,.int .i64 G,.bool s',.slice a' o c',.bool false,.slice b' l f]:=rfl;have hA0:=JG w (Ap [p,r,t,v,y,A] s a n c b m d) (Ap [B,C,D,E,F,G] s' a' o c' b' l f) 92 92
 have hA1:=JH w (Ap [p,r,t,v,y,A] s a n c b m d) (Ap [B,C,D,E,F,G] s' a' o c' b' l f) 92 92;have j:=Lk hA0 rfl;have k:=Lk hA1 rfl;rw[N,i]at j k;rw[N,i];clear hA0 hA1
 go_enter func144,ntmps144
 go_wp2
 go_quiet (exact lH (K _ (k.ext ((Ext.refl _).drewN _)) (j.ext ((Ext.refl _).drewN _))).out)
 go_wp2;go_ret;exact⟨rfl,nq,_,Mo _ _ _ _⟩
theorem P6(x y:EV)(w:World):Calls prog 144 #[.agg x.enc.toArray,.agg y.enc.toArray] w fun e G=>e = .returned (.int .i64 (cfE x y))/\∃ q C,G=grow (w.drewN q) C:=by
 obtain⟨⟨r,t⟩,⟨s,a,n,c,b,m,d,h⟩,h6,z⟩:=x;obtain⟨⟨D,F⟩,⟨E,i,B,k,j,A,l,v⟩,f,g⟩:=y;have o:r=Ap t.1 s a n c b m d:=h;have p:D=Ap F.1 E i B k j A l:=v;subst o;subst p;exact NF h6 f z g
theorem En(d:Array EV):(flatK EV.enc 10 d).toList=(d.toList.map EV.enc).flatten:=by
 have e:∀ r∈d.toList.map EV.enc,r.length=10:=by
  intro r g;obtain⟨v,_,rfl⟩:=gT.1 g;exact v.len
 refine kW fun j => ?_;by_cases f:j<d.size*10
 · have b:j=j/10*10+j%10:=by omega
   have a:j/10<d.size:=by omega
   have h3:=Eb (d.toList.map EV.enc) e (j/10) (j%10) (by omega);rw[<-b]at h3;rw[h3];have c:d[j/10].enc.length=10:=EV.len _;simp[flatK,f,a];rw[oN (by rw[c];omega)];rfl
 · have h1:(flatK EV.enc 10 d).toList.length<=j:=by simp;omega
   have h2:(d.toList.map EV.enc).flatten.length<=j:=by rw[B7 _ e];simp;omega
   rw[pu h1,pu h2]
theorem Mp(w:World)(g m:Nat)(dk:Array EV)(os:Array Obj):w.grownBy (sortWorldK EV.enc 10 w g 0 m dk os) (some g):=by
 refine⟨rfl,rfl,rfl,by unfold sortWorldK putRowK;simp,fun k b a => ?_⟩;unfold sortWorldK putRowK;rw[heap_grow_old _ _ (by simpa using b)];have:g≠k:=by rintro rfl;exact a rfl
 simp[putRow,mapBlock,ko,this]
theorem P7{e:TypeId}{dk:Array EV}(os:Array Obj)(h:AP w base e 10 (some ⟨g,0,none⟩) n c rows)(z:dk.size=n)(x:NoU w g) :
 AP (sortWorldK EV.enc 10 w g 0 m dk os) base e 10 (some ⟨g,0,none⟩) n c (dk.toList.map EV.enc)/\NoU (sortWorldK EV.enc 10 w g 0 m dk os) g:=by
 rcases h.2.2 with⟨o,_⟩|⟨B,t,a,o,y,p,h1,h2,h3,h4⟩
 · simp at o
 simp only[pk,oQ,ic,iY,lh]at o;obtain⟨rfl,rfl⟩:=o;have q:g<w.heap.size:=by
  rcases gQ g w.heap.size with h|h
  · exact h
  · simp[jw h]at p
 have d:(flatK EV.enc 10 dk).size=n*10:=by rw[size_flatK,z]
 have f:(sortWorldK EV.enc 10 w g 0 m dk os).heap[g]?=some (.cells (putCells id 0 (flatK EV.enc 10 dk) a) e (0,0)):=by
  unfold sortWorldK putRowK;rw[heap_grow_old _ _ (by simpa using q)];simp[putRow,mapBlock,ko,p,onCells]
 have k:∀ j,(putCells id 0 (flatK EV.enc 10 dk) a)[j]?=if j<a.size then(if j<n*10 then(flatK EV.enc 10 dk)[j]? else a[j]?)else none:=by
  intro j;unfold putCells;rw[Array.getElem?_mapIdx];by_cases l:j<a.size
  · rw[pq l,kj l];simp only[jm,oY,lh,gL,d,id,mw];by_cases b:j<n*10
    · rw[pq b,pq b,kj (by rw[d];exact b)];simp[d,b]
    · rw[pf b,pf b]
  · rw[pf l,jw (by omega)];rfl
 have A:n*10<=a.size:=by rw[h3];exact oO 10 h1
 refine⟨⟨?_,?_,Or.inr ⟨g,c,putCells id 0 (flatK EV.enc 10 dk) a,rfl,y,f,h1,h2,by simp[putCells,h3],?_⟩⟩,?_⟩
 · intro r s;obtain⟨v,_,rfl⟩:=gT.1 s;exact v.len
 · rw[<-En];simp[d]
 · rw[<-En];refine kW fun j => ?_;rw[List.getElem?_take];by_cases l:j<n*10
   · rw[pq l];have:=k j;rw[pq (by omega),pq l]at this;simpa using this
   · rw[pf l,pu (by simp[d];omega)]
 · intro j i he;rw[nC _ g _ _ e (0,0) f,k j]at he;split at he
   · split at he
     · have h5:(flatK EV.enc 10 dk).toList[j]?=some (.int .u64 i):=by simpa using he
       rw[En]at h5;obtain⟨r,s,hu⟩:=ld.1 (gY h5);obtain⟨v,_,rfl⟩:=gT.1 s;exact v.nu _ hu i rfl
     · refine x j i ?_;rw[nC w g _ a e (0,0) p];exact he
   · cases he
def GQ(l:List Pl.Tm):Prop:=∀ t∈l,t.1.length=6/\∀ x∈t.1,0<=x/\x<=1099511627776
theorem F5{l:List Pl.Tm}(O:Em w base a n c l)(hb:GQ l)(hn:n<=1000000) :
 Calls prog 143 #[.slice a n c,.func (.func 144) #[] #[]] w fun e N=>e = .returned (.tuple #[])/\∃ Z,Z.Perm l/\Pl.desc Z/\Em N base a n c Z/\w.grownBy N (blk a):=by
 rcases oV n with h0|h0
 · subst h0;refine(AnyF.slices_SortFunc_none Uf a c _ w).mono ?_;rintro e N ⟨rfl,rfl⟩;refine⟨rfl,l,mD _,?_,O,mr _ _⟩;have:l=[]:=oX O.len;subst this;exact List.Pairwise.nil
 · obtain⟨p,h1,h2,h3,h4⟩:=O;obtain⟨g,rfl,a3,S⟩:=h1.place h0;have hU:=h2 g rfl;have J:=h1.slk (by omega);have Q:∀ i,∃ v:EV,i<n->v.enc=p.getD i []/\v.tm=l.getD i ([],0):=by
    intro i;by_cases z:i<n
    · obtain⟨s,a,n',c',b,m,d,F,e2,e3⟩:=h4 i z;have hm:=hb (l.getD i ([],0)) (by simp[show i<l.length by omega]);exact⟨⟨(p.getD i [],l.getD i ([],0)),⟨s,a,n',c',b,m,d,F⟩,hm.1,hm.2⟩,fun _=>⟨rfl,rfl⟩⟩
    · exact⟨default,fun h=>absurd h z⟩
   obtain⟨f,K⟩:=Classical.axiomOfChoice Q
   let d:Array EV:=((List.range n).map f).toArray
   have A:d.size=n:=by simp[d]
   have P:∀ i,i<n->d[i]! = f i:=fun i z=>by simp[d,z]
   have hH:HoldsK EV.enc 10 w g 0 d:=by
    intro j L;rw[size_flatK,A]at L;rw[gL,get_flatK _ _ _ _ (by rw[A];exact L)];obtain⟨b',a4,F,hc⟩:=J.rd h0;simp only[oQ,ic,iY]at F;obtain⟨rfl,rfl⟩:=F;have B:j/10<n:=by omega
    have G:=hc (j/10) B (j%10) (by omega);have V:0+j/10*10+j%10=j:=by omega
    rw[V]at G;refine⟨?_,?_⟩
    · rw[G,P _ B,(K _ B).1];have W:=J.row B;have h9:j%10<(p.getD (j/10) []).length:=by rw[W];omega
      simp only[id,oQ];rw[gqq,oN h9,getElem!_pos (p.getD (j/10) []) (j%10) h9];rfl
    · rcases h1.2.2 with⟨M,_⟩|⟨g1,a0,a1,M,a2,hh,_⟩
      · simp at M
      simp only[pk,oQ,ic,iY,lh]at M;rw[M.1];simp[World.frozen?,hh]
   have eg:∀ C w,(callFunc 144 C).run prog w = .ok (.enter 144 C) w:=enters_of func144 (by kernel_rfl) rfl;have H:CmpLays prog 144 #[] EV.enc 10 cfE g 0 d.size w:=fun m os dk _ x y=>P6 x y _;have h:=AnyQ.slices_SortFunc Uf 10 (fun w=>Tryz.isAgg92 w) (fun w=>Tryz.sizeOf92 w) EV.enc EV.len EV.one cfE We 144 #[] g 0 c d w eg H hH S (by omega);rw[A]at h;refine h.mono ?_;rintro e N ⟨rfl,o,q,os,hp,X,rfl⟩;obtain⟨p1,_,p3⟩:=hp;have D:o.size=n:=by rw[p1,A]
   have t:o.toList.Perm d.toList:=by
    rw[ou (by omega),ou (by omega)]at p3;exact p3
   have I:=Mp w g q o os;obtain⟨o1,o2⟩:=P7 (m:=q) (dk:=o) os h1 D hU;have Y:d.toList.map EV.tm=l:=by
    apply p6
    · simp[d,h3]
    · intro i i1 i2;have z:i<n:=by omega
      simp only[d,lJ,List.getElem_map,List.getElem_range,Function.comp];rw[(K i z).2];simp[i2]
   refine⟨rfl,o.toList.map EV.tm,?_,?_,⟨o.toList.map EV.enc,o1,fun g' R => ?_,by simp[D],fun i z => ?_⟩,I⟩
   · rw[<-Y];exact t.map _
   · unfold Pl.desc;rw[lU];rw[lG];intro i j z L T;have r:i<o.size:=by simpa using z
     have U:j<o.size:=by simpa using L
     have h5:=GP (X i j (oY _) T (by omega));unfold cfE at h5;rw[getElem!_pos o i r,getElem!_pos o j U]at h5;have h6:=Pl.ordE_anti o[i].tm.1 o[j].tm.1;simp only[Array.getElem_toList];omega
   · have:g=g':=by simpa[blk]using R
     subst this;exact o2
   · have r:i<o.toList.length:=by simpa[D]using z
     obtain⟨k,hk,e⟩:=jC.1 (t.mem_iff.1 (iF r));have E:k<n:=by simpa[d]using hk
     have F:o.toList[i]=f k:=by rw[<-e];simp[d]
     have h7:=h4 k E;rw[<-(K k E).1,<-(K k E).2,<-F]at h7;have e2:(o.toList.map EV.enc).getD i []=o.toList[i].enc:=by rw[gqq,oF,oN r];rfl
     have e3:(o.toList.map EV.tm).getD i ([],0)=o.toList[i].tm:=by rw[gqq,oF,oN r];rfl
     rw[e2,e3];exact h7.keptU hU I
end Go.Proofs.YtlbmnokpiilfpaaGreatDoor
namespace Go.Proofs.YtlbmnokpiilfpaaGreatDoor
open Tryz Go Go.RowKit
variable {f:Act} {ops:Array Oper} {Q:Exit->Act->World->Prop} {vars:Int} {rows:List (List Value)} {xs ys:List Int} {rest:List Oper} {cs cs' cur:List Value} {b b' base c g k n:Nat} {o:Oper} {d i s x:Operand} {A a:Option Addr} {q:Rat} {dT e e' et sT t ty:TypeId} {z:Value} {w w0:World}
section
variable {P:Program} {w:World}
theorem S7{bytes d dc m:Nat}(E:P.underlying dT=some (.slice e))(f:BM P e z bytes)
 (h:Arr w g t cur) (C:cur.length=d) (D:Sl w A m c cs) (s:d<=m) (h1:∀ v∈cs,v.oneCell'=true) :
 ∃ y,(Builtin.copy_ #[dT,sT] ty #[.slice (some ⟨g,0,none⟩) d dc,.slice A m c]).run P w = .ok (goInt d) y/\Arr y g t (cs.take d)/\w.grownBy y (some g):=by
 obtain⟨i,J,L,k,H⟩:=mF f;have p:(P.info? e).map (·.size)=some 1:=by simp[J,k]
 have l:=D.len;by_cases h0:d=0
 · subst h0;have r:cur=[]:=oX C;refine⟨w,run_copy_none w dT sT ty e _ _ 0 dc m c E p (by simp),?_,⟨rfl,rfl,rfl,lrf _,fun _ _ _=>rfl⟩⟩;rw[jK,<-r];exact h
 · obtain⟨b,x,G,I⟩:=D.rd (by omega);subst G;have o:m.min d=d:=Nat.min_eq_right s
   have:=run_copy_row (P:=P) w dT sT ty e g 0 d dc ⟨b,x,none⟩ m c cur.toArray t (cs.take d) E p h (by rw[o,gO,l];exact jn s) (by
    intro j v q;have K:j<(cs.take d).length:=by
     rcases gQ j (cs.take d).length with h|h
     · exact h
     · simp[pu h]at q
    rw[gO]at K;have h2:=I j (by omega);rw[List.getElem?_take_of_lt (by omega)]at q;rw[gqq,q]at h2;rw[<-pg (a:=v) (b:=undef),<-h2.symm.symm];unfold Addr.add
    by_cases h3:j=0 <;> simp[h3]at h2 |- <;> exact h2) (by simp[C];omega) (fun v q=>h1 v (iZ q))
   have n:(cs.take d).length=d:=by rw[gO,l];exact jn s
   refine⟨_,by rw[this,n],?_,Bs w g _⟩;have h9:=B0 h (cur.take 0 ++ cs.take d ++ cur.drop (0+(cs.take d).length));rw[n]at h9;have B:cur.take 0 ++ cs.take d ++ cur.drop (0+d)=cs.take d:=by
    rw[jK,iA,gL,gZ (by omega),jp]
   rw[B]at h9;have F:cur.toArray.toList.take 0 ++ cs.take d ++ cur.toArray.toList.drop (0+d)=cs.take d:=B;rw[F];exact h9
theorem UE(n:o.guard=none)
 (B:o.op = .call { callee := .builtin .copy,args:=#[d,s],argTypes:=#[dT,sT] })
 {e:TypeId} {z:Value} {bytes g i dc m c:Nat} {A:Option Addr} {t:TypeId} {b cs:List Value} (D:P.underlying dT=some (.slice e)) (a:BM P e z bytes)
 (r:f.eval d = .slice (some ⟨g,0,none⟩) i dc) (p:f.eval s = .slice A m c)
 (h:Arr w g t b) (x:b.length=i) (C:Sl w A m c cs) (y:i<=m) (h1:∀ v∈cs,v.oneCell'=true)
 (q:∀ k,Arr k g t (cs.take i)->w.grownBy k (some g)->wpList P ops Q rest (f.put o.dst (goInt i)) k):wpList P ops Q (o :: rest) f w:=by
 refine iI n fun K l => ?_;obtain⟨k,j,h2,h3⟩:=S7 (P:=P) (ty:=o.type) (sT:=sT) (dc:=dc) D a h x C y h1;unfold Oper.wp execOp;simp only[B,resolve,invoke,builtin,gI,gS,p9,jo,iz,jg,r,p,j,Oper.upon];exact l _ _ (q k h2 h3)
end
def S8(w:World)(g:Nat)(xs:List Int):Prop:=Arr w g 3 (xs.map (Value.int .i64))
theorem S8.own(h:S8 w g xs)(a:base<=g)(b:xs.length<=maxLen):Own w base 3 (some ⟨g,0,none⟩) xs.length xs.length (xs.map (Value.int .i64)):=by
 refine⟨by simp,Or.inr ⟨g,xs.length,(xs.map (Value.int .i64)).toArray,rfl,a,h,lrf _,b,by simp,?_⟩⟩;rw[px];exact oL (by simp)
theorem EO{p:Nat}(h:Own w base e a n c cs)(d:Arr w p t cs')(l:t≠e):blk a≠some p:=by
 rcases h.2 with⟨b,_⟩|⟨g,i,j,b,_,k,_⟩
 · simp only[pk]at b;rw[b.1];simp[blk]
 · simp only[pk]at b;rw[b.1];intro he;have f:g=p:=by simpa[blk]using he
   subst f;unfold Arr at d;rw[k]at d;simp only[oQ,jJ]at d;exact l d.2.1.symm
theorem Fg:BT prog 26 (tmL ⟨#[]⟩ none 0 0) 2 40:=⟨by kernel_rfl,rfl,by omega⟩
def Id(w:World)(base:Nat)(row:List Value)(t:Tx):Prop:=∃ s a n c,row=tmL s a n c/\Al s=t.1/\Own w base 3 a n c (t.2.map (Value.int .i64))
def TmO(w:World)(base:Nat)(a:Option Addr)(n c:Nat)(ts:List Tx):Prop:=∃ rows,AP w base 26 2 a n c rows/\ts.length=n/\∀ i,i<n->Id w base (rows.getD i []) (ts.getD i tm0)
theorem Id.ext{w b:World}{base:Nat}{row:List Value}{t:Tx}(h:Id w base row t)(e:Ext w b):Id b base row t:=by
 obtain⟨s,a,n,c,h1,h2,h3⟩:=h;exact⟨s,a,n,c,h1,h2,h3.ext e⟩
theorem TmO.ext{w d:World}{base:Nat}{a:Option Addr}{n c:Nat}{ts:List Tx}(h:TmO w base a n c ts)(e:Ext w d):TmO d base a n c ts:=by
 obtain⟨b,h1,h2,h3⟩:=h;exact⟨b,h1.ext e,h2,fun i f=>(h3 i f).ext e⟩
theorem TmO.sl{w:World}{base:Nat}{a:Option Addr}{n c:Nat}{ts:List Tx}(h:TmO w base a n c ts):Be w a n c ts:=by
 obtain⟨b,h1,h2,h3⟩:=h;refine⟨b,h1.slk (by omega),h2,fun i k => ?_⟩;obtain⟨s,d,l,e,f,g,j⟩:=h3 i k;exact⟨s,d,l,e,f,g,j.sl⟩
theorem TmO.nil(w:World)(base:Nat):TmO w base none 0 0 []:=⟨[],AP.nil _ _ _ _,rfl,fun i a=>absurd a (by omega)⟩
theorem TmO.mono{w:World}{base b:Nat}{a:Option Addr}{n c:Nat}{ts:List Tx}(h:TmO w base a n c ts)(e:b<=base):TmO w b a n c ts:=by
 obtain⟨d,h1,h2,h3⟩:=h;refine⟨d,h1.mono e,h2,fun i m => ?_⟩;obtain⟨s,f,o,g,j,k,l⟩:=h3 i m;exact⟨s,f,o,g,j,k,l.mono e⟩
theorem Hp{v c':Nat}(h:Own w b e a n c cs)(r:AP w b' e' k (some ⟨g,0,none⟩) v c' rows)(t:e≠e'):blk a≠some g:=by
 rcases r.2.2 with⟨i,_⟩|⟨x,o,p,i,_,s,_⟩
 · simp at i
 simp only[pk,oQ,ic,iY,lh]at i;rcases h.2 with⟨f,_⟩|⟨q,l,m,f,_,d,_⟩
 · simp only[pk]at f;rw[f.1];simp[blk]
 · simp only[pk]at f;rw[f.1];intro he;have j:q=g:=by simpa[blk]using he
   rw[j]at d;rw[i.1]at d;rw[s]at d;simp only[oQ,jJ]at d;exact t d.2.1.symm
def Da(q:Rat):Prop:=∀ (w:World) (v:Value),AV w->BL w v q->Calls prog 124 #[v] w fun e w'=>e = .returned (.string ⟨(txt q).toArray⟩)/\Ext w w'
theorem T7(b:q.num.natAbs<P2 8064)(c:q.den<P2 8064):Da q:=fun _ _ a h=>OE a h b c
theorem GR(a:q.num.natAbs<P2 1920)(b:q.den<P2 1920):Da q:=T7 (Aj a (by omega)) (Aj b (by omega))
theorem DC(b:q.num.natAbs<18446744073709551616)(c:q.den<18446744073709551616):Da q:=by
 have e:P2 64=18446744073709551616:=by unfold P2;decide
 exact GR (Aj (a:=64) (by omega) (by omega)) (Aj (a:=64) (by omega) (by omega))
def wrT(vars:Nat)(l:List Pl.Tm):List Tx:=l.map (fun t=>(txt t.2,t.1.take vars))
def C2(vars:Int)(a:Option Addr)(n c:Nat):Value := .agg #[.int .i64 vars,.slice a n c]
def EH(w0:World)(vars:Int)(ts:List Tx)(err:Int)(e:Ending)(w':World):Prop:=∃ a n c,e = .returned (.tuple #[C2 vars a n c,.int .i64 err])/\Ext w0 w'/\TmO w' w0.heap.size a n c ts
def As(vars:Int)(a:Option Addr)(n c:Nat):List Value:=[.int .i64 vars,.slice a n c]
theorem AB(vars:Int)(a:Option Addr)(n c:Nat):∀ v∈As vars a n c,v.oneCell'=true:=by
 intro v b;simp only[As,gV,jN,me]at b;rcases b with rfl|rfl <;> rfl
def okW(l:List Pl.Tm):Prop:=l.length<=4096/\∀ t r,l=t :: r->A4 t.1=true
def Hq(w0:World)(vars:Nat)(l:List Pl.Tm)(e:Ending)(w':World):Prop:=∃ l',l'.Perm l/\((Pl.desc l'/\okW l'/\EH w0 vars (wrT vars l') 0 e w')\/((4096<l.length\/(Pl.desc l'/\¬ okW l'))/\EH w0 0 [] 2 e w'))
theorem Dl{vars:Nat}{l:List Pl.Tm}(b1:AV w0)(ad:Ext w0 w)(V:Em w w0.heap.size a n c l)(hv:vars<=6)(hb:GQ l)(aM:∀ t∈l,Da t.2)(hn:n<=1000000) :
 Calls prog 69 #[.int .i64 vars,.slice a n c] w (Hq w0 vars l):=by
 have aL:=fun(j:World) (f:Ext w j)=>qh (F5 (V.ext f) hb hn);have aX:=qh aM;have aV:=qh V.len;have ay:=qh (fun g hg=>(by obtain⟨ac,h1,_⟩:=V;exact h1.lt hg:w0.heap.size<=g/\g<w.heap.size):∀ g,blk a=some g->w0.heap.size<=g/\g<w.heap.size);have aR:=F5 V hb hn;have b2:AV w0:=b1;have bs:=V.len
 go_enter func69,ntmps69
 go_upto_region 1 with(fail)
 refine AM ?_;intro w1 ae aC b8;have hR:Arr w1 w.heap.size 28 (As 0 none 0 0):=aC;have ar:=aL w1 ae;have h01:=ad.trans ae;have bu:(As 0 none 0 0).toArray=#[.int .i64 0,.slice none 0 0]:=rfl;clear aC b8 aL aR aM V;by_cases bp:4096<n
 · go_wp2_with(refine Aa (vs:=As 0 none 0 0) rfl rfl rfl rfl rfl An hR rfl (AB _ _ _ _) ?_;intro w9 I q)
   refine oM (Ar rfl An rfl rfl I) rfl ?_;exact⟨l,mD _,Or.inr ⟨Or.inl (by have:=aV.out;omega),none,0,0,rfl,h01.grownR q ad.size,TmO.nil _ _⟩⟩
 · go_wp2_with fail
   refine ar.out.mono ?_;rintro e w2 ⟨rfl,D,O,an,T,a6⟩;have HP:=qh (And.intro O an);have M:Arr w2 w.heap.size 28 (As 0 none 0 0):=hR.kept a6 (fun he=>by have:=(ay.out _ he.symm).2;omega);have h02:Ext w0 w2:=h01.grown a6 (fun k hk=>(ay.out k hk).1);have aT:w.heap.size<w2.heap.size:=M.lt;have C:=T.len;have aO:Hid (∀ t∈D,Da t.2):=qh (fun t ht=>aX.out t (O.mem_iff.1 ht));clear O an ar a6 hR ae;have ab:=ad.size;have b9:n=0\/(∃ t r,D=t :: r/\A4 t.1=true)\/(∃ t r,D=t :: r/\A4 t.1=false):=by
    rcases oV n with h|h
    · exact Or.inl h
    · right;cases D with
      | nil=>simp at C;omega
      | cons t r=>cases aN:A4 t.1 with
       | true=>exact Or.inl ⟨t,r,rfl,aN⟩
       | false=>exact Or.inr ⟨t,r,rfl,aN⟩
   have R:n=0->okW D:=fun h=>⟨by omega,fun t r e=>by rw[e]at C;simp at C;omega⟩;have a4:0<n->∃ g,a=some ⟨g,0,none⟩/\∀ t r,D=t :: r->∀ j,Ext w2 j->Hid (Calls prog 68 #[.slice (some ⟨g,0,none⟩) 6 6] j fun e w'=>e = .returned (.bool (A4 t.1))/\Qt j w'):=by
    intro h0;obtain⟨ac,h1,h2,h3,h4⟩:=T;obtain⟨g,rfl,br,a6⟩:=h1.place h0;refine⟨g,rfl,fun t r Y j f=>qh ?_⟩;obtain⟨s,a',n',c',b,m,d,e1,e2,e3⟩:=h4 0 h0;have a7:=h1.slk (by omega);obtain⟨b',bn,e4,hc⟩:=a7.rd h0;simp only[oQ,ic,iY]at e4;obtain⟨rfl,rfl⟩:=e4;rw[Y]at e1 e2;have b7:SlI w2 (some ⟨g,0,none⟩) 6 6 t.1:=by
     refine⟨by simpa using e2,lrf _,by unfold maxLen;omega,fun _=>⟨g,0,rfl,fun i hi => ?_⟩⟩;have h5:=hc 0 h0 i (by omega);rw[e1]at h5;rw[pw]at h5;rw[h5];have:((t :: r).getD 0 ([],0))=t:=rfl;rw[this]at e2 |-;have h1:(Ap t.1 s a' n' c' b m d).getD i undef=(t.1.map (Value.int .i64)).getD i undef:=by
      unfold Ap;rw[gqq,gF (by simp[e2];omega),<-gqq]
     rw[h1]
    exact(EF (b7.ext f)).mono fun _ _ h=>⟨h.1,h.2 ▸ Qt.refl _⟩
   rcases b9 with h0|⟨t,r,Y,P⟩|⟨t,r,Y,P⟩
   · have aK:=R h0;have W:=qh aK;clear aK R a4;have aJ:¬ ((0:Int)<(n:Int)):=by omega
     clear h0;have hY:=fun j:World=>Arr.new j 28 (As 0 none 0 0)
     go_upto_region 7 with(first
      | (refine ED rfl rfl (by kernel_rfl) Fg rfl rfl (by omega) (by unfold maxLen;omega) ?_;intro w4 J Z)
      | (refine Aa (vs:=As vars (some ⟨w2.heap.size,0,none⟩) n n) rfl rfl rfl rfl rfl An (hY _) rfl (AB _ _ _ _) ?_;intro w5 B a2))
     have p:Ext w4 w5:=((Ext.refl w4).alloc _).grownR a2 (lrf _);have F:=Z.trans p;have K:AP w5 w0.heap.size 26 2 (some ⟨w2.heap.size,0,none⟩) n n (List.replicate n (tmL ⟨#[]⟩ none 0 0)):=(J.ext p).mono h02.size;have U:w4.heap.size≠w2.heap.size:=by have:=(J.lt (g:=w2.heap.size) rfl).2;omega
     obtain⟨PB,a0⟩:∃ x,w4.heap.size=x:=⟨_,rfl⟩;obtain⟨G,hG⟩:∃ x,w2.heap.size=x:=⟨_,rfl⟩;rw[a0]at B U;rw[hG]at B U K;rw[a0];clear hY J Z p a2;obtain⟨ac,hK,hU,b5,a3⟩:=T;have aw:=qh a3;have aE:=hK.slk (by omega);clear a3 hU hK;go_wp2
     go_loopw[35] (fun iv wr=>∃ (k:Nat) (rs:List (List Value)),iv = .int .i64 k/\k<=n/\Ext w2 wr/\AP wr w0.heap.size 26 2 (some ⟨G,0,none⟩) n n rs/\Arr wr PB 28 (As vars (some ⟨G,0,none⟩) n n)/\Hid (∀ i,i<k->Id wr w0.heap.size (rs.getD i []) ((wrT vars D).getD i tm0))) (fun iv _=>n-(intOf iv).toNat)
     case atStart=>exact⟨0,_,rfl,oY _,F,K,B,qh (fun i hi=>absurd hi (by omega))⟩
     case round =>
      clear K B F;obtain⟨k,rs,rfl,hk,hE,V,hP,HC⟩:=hrel;by_cases N:k<n
      · exfalso;omega
      · have ak:k=n:=by omega
        subst ak;have q0:=hP.c 0 rfl;have q1:=hP.c 1 rfl;have a1:=M.ext hE;have b6:(As vars (some ⟨G,0,none⟩) k k).toArray=#[.int .i64 vars,.slice (some ⟨G,0,none⟩) k k]:=rfl
        go_wp2_with(refine Aa (vs:=As vars (some ⟨G,0,none⟩) k k) rfl rfl rfl rfl rfl An a1 rfl (AB _ _ _ _) ?_;intro w9 I q)
        refine oM (Ar rfl An rfl rfl I) rfl ?_;have ai:w.heap.size≠G:=by omega
        refine⟨D,HP.out.1,Or.inl ⟨HP.out.2,W.out,_,k,k,rfl,(h02.trans hE).grownR q ab,rs,V.kept q (Or.inr (by simpa[blk]using fun h=>ai h.symm)),by simp[wrT,C],fun i hi => ?_⟩⟩;obtain⟨s9,a9,n9,c9,e1,e2,e3⟩:=HC.out i hi;exact⟨s9,a9,n9,c9,e1,e2,e3.kept q (Or.inr (EO e3 a1 (by decide)))⟩
   · have al:0<n:=by rw[<-C,Y];simp
     obtain⟨g,rfl,H⟩:=a4 al;have z:=H t r Y;clear a4;have W:Hid (okW D):=qh ⟨by omega,fun t' r' e=>by rw[Y]at e;cases e;exact P⟩;have aJ:(0:Int)<(n:Int):=by omega
     rw[P]at z;clear H R P Y
     go_wp2_with fail
     refine(z _ (Ext.refl _)).out.mono ?_;rintro e w3 ⟨rfl,L⟩;have T:=T.ext L.ext;have M:=M.ext L.ext;have h02:=h02.trans L.ext;have aT:w.heap.size<w3.heap.size:=M.lt;clear z L;generalize (some (⟨g,0,none⟩:Addr))=A at *
     have hY:=fun j:World=>Arr.new j 28 (As 0 none 0 0)
     go_upto_region 7 with(first
      | (refine ED rfl rfl (by kernel_rfl) Fg rfl rfl (by omega) (by unfold maxLen;omega) ?_;intro w4 J Z)
      | (refine Aa (vs:=As vars (some ⟨w3.heap.size,0,none⟩) n n) rfl rfl rfl rfl rfl An (hY _) rfl (AB _ _ _ _) ?_;intro w5 B a2))
     have p:Ext w4 w5:=((Ext.refl w4).alloc _).grownR a2 (lrf _);have F:=Z.trans p;have K:AP w5 w0.heap.size 26 2 (some ⟨w3.heap.size,0,none⟩) n n (List.replicate n (tmL ⟨#[]⟩ none 0 0)):=(J.ext p).mono h02.size;have U:w4.heap.size≠w3.heap.size:=by have:=(J.lt (g:=w3.heap.size) rfl).2;omega
     obtain⟨PB,a0⟩:∃ x,w4.heap.size=x:=⟨_,rfl⟩;obtain⟨G,hG⟩:∃ x,w3.heap.size=x:=⟨_,rfl⟩;rw[a0]at B U;rw[hG]at B U K;rw[a0];clear hY J Z p a2;obtain⟨ac,hK,hU,b5,a3⟩:=T;have aw:=qh a3;have aE:=hK.slk (by omega);clear a3 hU hK;go_wp2
     go_loopw[35] (fun iv wr=>∃ (k:Nat) (rs:List (List Value)),iv = .int .i64 k/\k<=n/\Ext w3 wr/\AP wr w0.heap.size 26 2 (some ⟨G,0,none⟩) n n rs/\Arr wr PB 28 (As vars (some ⟨G,0,none⟩) n n)/\Hid (∀ i,i<k->Id wr w0.heap.size (rs.getD i []) ((wrT vars D).getD i tm0))) (fun iv _=>n-(intOf iv).toNat)
     case atStart=>exact⟨0,_,rfl,oY _,F,K,B,qh (fun i hi=>absurd hi (by omega))⟩
     case round =>
      clear K B F;obtain⟨k,rs,rfl,hk,hE,V,hP,HC⟩:=hrel;by_cases N:k<n
      · have aj:=aE.ext hE;obtain⟨bb,bn,ha,_⟩:=aj.rd (by omega)
        first
         | subst ha
         | (simp only[oQ,ic,iY]at ha;obtain⟨rfl,rfl⟩:=ha)
        obtain⟨sx,ax,nx,cx,bx,mx,dx,aa,h6,am⟩:=aw.out k N;have HM:Hid ((wrT vars D).getD k tm0=(txt (D.getD k ([],0)).2,(D.getD k ([],0)).1.take vars)):=qh (by simp[wrT,C,N]);have az:Hid (Da (D.getD k ([],0)).2):=qh (aO.out _ (by simp[C,N]));generalize D.getD k ([],0)=t at *
        obtain⟨te,tq⟩:=t;obtain⟨x0,x1,x2,x3,x4,x5,aB⟩:=Cs h6;simp only at aB aa HM am az;subst aB;have hY:=Arr.new wr 92 (Ap [0,0,0,0,0,0] false none 0 0 none 0 0)
        go_upto_region 10 with(first
         | (refine Bz rfl rfl Au rfl aj N ?_;rw[aa])
         | (refine Aa (vs:=(Ap [x0,x1,x2,x3,x4,x5] sx ax nx cx bx mx dx)) rfl rfl rfl rfl rfl Au hY rfl AY ?_;intro w6 S aH))
        have af:Ext wr w6:=((Ext.refl wr).alloc _).grownR aH (lrf _);have bo:wr.heap.size<w6.heap.size:=S.lt;obtain⟨X,hX⟩:∃ x,wr.heap.size=x:=⟨_,rfl⟩;rw[hX]at S;rw[hX];have a7:=Lk S rfl;clear hY aH aa h6 aj
        go_upto_region 11 with(refine C1 (n:=vars) rfl rfl underlying24 Eg rfl rfl rfl (by omega) (by unfold maxLen;omega) ?_;intro w7 aF a5)
        have hA7:=Own.arr aF;have aq:=a7.ext a5;have zc:w7.cell? ⟨X,0,none⟩=some (.int .i64 x0):=(S.ext a5).cell (i:=0) (by simp[Ap])
        go_upto_region 12 with(refine UE (sT:=24) rfl rfl underlying24 Eg rfl rfl hA7 (by simp) aq hv (EN _) ?_;intro w8 hA8 aI)
        have a8:Ext w6 w8:=a5.grownR aI (lrf _);have y:=af.trans a8;have ao:=hE.trans y;have aG:=V.ext y;have ah:=hP.ext y;have o:=S.ext a8;have aU:Hid (∀ i,i<k->Id w8 w0.heap.size (rs.getD i []) ((wrT vars D).getD i tm0)):=qh fun i hi=>(HC.out i hi).ext y;have ap:=am.ext ao;have aA:=h02.trans hE
        have au:Hid (Own w8 w0.heap.size 3 (some ⟨w6.heap.size,0,none⟩) vars vars (([x0,x1,x2,x3,x4,x5].take vars).map (Value.int .i64))):=qh (by
         have h1:S8 w8 w6.heap.size ([x0,x1,x2,x3,x4,x5].take vars):=by unfold S8;rw[oB];exact hA8
         have h2:=h1.own (base:=w0.heap.size) (by have:=(aA.trans af).size;omega) (by unfold maxLen;rw[gO];simp;omega);have h3:([x0,x1,x2,x3,x4,x5].take vars).length=vars:=by rw[gO];simp;omega
         rw[h3]at h2
         exact h2)
        obtain⟨E,aZ⟩:∃ x,w6.heap.size=x:=⟨_,rfl⟩;rw[aZ]at au |-;have aW:=qh (aG.len (by omega));have aS:=fun(j:World) (f:Ext w8 j)=>qh (az.out j (.agg #[.bool sx,.slice ax nx cx,.bool false,.slice bx mx dx]) (b2.ext ((aA.trans y).trans f)) ⟨Ah sx ax nx cx false bx mx dx,rfl,ap.ext f⟩);clear zc aF hA7 hA8 aI a5 af a8 a7 aq S V hP hE HC am y;have c0:=o.c 0 rfl;have c1:=o.c 1 rfl;have c2:=o.c 2 rfl;have c3:=o.c 3 rfl;have c4:=o.c 4 rfl;have c5:=o.c 5 rfl;have c6:=o.c 6 rfl;have c7:=o.c 7 rfl;have c8:=o.c 8 rfl;have c9:=o.c 9 rfl
        have q0:=ah.c 0 rfl;have q1:=ah.c 1 rfl;clear o ap;have av:=fun(j:World) (f:Ext w8 j)=>qh (And.intro (f.cell c0) (And.intro (f.cell c1) (And.intro (f.cell c2) (And.intro (f.cell c3) (And.intro (f.cell c4) (And.intro (f.cell c5) (And.intro (f.cell c6) (And.intro (f.cell c7) (And.intro (f.cell c8) (And.intro (f.cell c9) (And.intro (f.cell q0) (f.cell q1))))))))))))
        refine Ac
         [hdP PB 1,hdS (some ⟨G,0,none⟩) n n,hdI k,hdP X 6,he (.agg #[.bool sx,.slice ax nx cx,.bool false,.slice bx mx dx]),hp (fun v j=>v = .string ⟨(txt tq).toArray⟩),hdS (some ⟨E,0,none⟩) vars vars,hp (fun v j=>v = .agg #[.string ⟨(txt tq).toArray⟩,.slice (some ⟨E,0,none⟩) vars vars])]
         ⟨fun _ _ _ _ h=>h,fun _ _ _ _ h=>h,trivial⟩ ⟨?o0,?o1,?o2,?o3,?o4,?o5,?o6,?o7,trivial⟩ ?fin
        case o0=>exact ofa (d:=1)
        case o1=>exact ol
        case o2 | o6=>exact omv
        case o3=>exact ofa (d:=6)
        case o4=>exact ol4
        case o5 =>
         refine Ae rfl fun ρ j f aQ b3 h => ?_;have e1:_=_:=h.2.1;obtain⟨bd,be,bf,bg,bh,bi,bj,bk,bl,bm,ba,bc⟩:=(av j f).out;refine⟨124,#[.agg #[.bool sx,.slice ax nx cx,.bool false,.slice bx mx dx]],by go_simp,((aS j f).out).mono ?_⟩;rintro e w' ⟨rfl,aY⟩;exact⟨_,rfl,aY,rfl⟩
        case o7 =>
         refine AR rfl ?_;intro ρ j hp f h;have aQ:=hp.const;have b3:=hp.func;obtain⟨v0,e0,rfl⟩:=h.1;have e1:_=_:=h.2.1;obtain⟨bd,be,bf,bg,bh,bi,bj,bk,bl,bm,ba,bc⟩:=(av j f).out;exact⟨_,j,by go_simp,Ext.refl _,rfl⟩
        case fin =>
         intro j f;rintro _ rfl;rintro _ rfl;change wpList _ _ _ _ _ _;simp only[A0];have ag:=aG.ext f;have bq:(k:Int)<n:=by omega
         have bt:(tmL ⟨(txt tq).toArray⟩ (some ⟨E,0,none⟩) vars vars).toArray=#[.string ⟨(txt tq).toArray⟩,.slice (some ⟨E,0,none⟩) vars vars]:=rfl
         go_wp2_with(refine Hk (vs:=tmL ⟨(txt tq).toArray⟩ (some ⟨E,0,none⟩) vars vars) rfl rfl (by omega) CI rfl rfl rfl ag N rfl (Fr _ _ _ _) ?_;intro bv aP Q)
         go_roundw
         case rel =>
          have aD:Own j w0.heap.size 3 (some ⟨E,0,none⟩) vars vars (([x0,x1,x2,x3,x4,x5].take vars).map (Value.int .i64)):=au.out.ext f;refine⟨k+1,_,by go_num,by omega,(ao.trans f).grownR Q (kZ hG),aP,(ah.ext f).kept Q (fun he=>U (by simpa using he)),qh fun i hi => ?_⟩;by_cases b4:i=k
          · subst b4;rw[HM.out,gqq,jH (by rw[aW.out];exact N)];exact⟨_,_,vars,vars,rfl,rfl,aD.kept Q (Or.inr (Hp aD ag (by decide)))⟩
          · rw[gqq,List.getElem?_set_ne (by omega),<-gqq];obtain⟨s9,a9,n9,c9,e1,e2,e3⟩:=(aU.out i (by omega)).ext f;exact⟨s9,a9,n9,c9,e1,e2,e3.kept Q (Or.inr (Hp e3 ag (by decide)))⟩
         case measure=>simp[intOf];omega
      · have ak:k=n:=by omega
        subst ak;have q0:=hP.c 0 rfl;have q1:=hP.c 1 rfl;have a1:=M.ext hE;have b6:(As vars (some ⟨G,0,none⟩) k k).toArray=#[.int .i64 vars,.slice (some ⟨G,0,none⟩) k k]:=rfl
        go_wp2_with(refine Aa (vs:=As vars (some ⟨G,0,none⟩) k k) rfl rfl rfl rfl rfl An a1 rfl (AB _ _ _ _) ?_;intro w9 I q)
        refine oM (Ar rfl An rfl rfl I) rfl ?_;have ai:w.heap.size≠G:=by omega
        refine⟨D,HP.out.1,Or.inl ⟨HP.out.2,W.out,_,k,k,rfl,(h02.trans hE).grownR q ab,rs,V.kept q (Or.inr (by simpa[blk]using fun h=>ai h.symm)),by simp[wrT,C],fun i hi => ?_⟩⟩;obtain⟨s9,a9,n9,c9,e1,e2,e3⟩:=HC.out i hi;exact⟨s9,a9,n9,c9,e1,e2,e3.kept q (Or.inr (EO e3 a1 (by decide)))⟩
   · have al:0<n:=by rw[<-C,Y];simp
     obtain⟨g,rfl,H⟩:=a4 al;have z:=H t r Y;clear a4;have W:Hid (¬ okW D):=qh fun h=>by have:=h.2 t r Y;rw[P]at this;cases this
     have aJ:(0:Int)<(n:Int):=by omega
     rw[P]at z;clear H R P Y
     go_wp2_with fail
     refine(z _ (Ext.refl _)).out.mono ?_;rintro e w3 ⟨rfl,L⟩;have b0:=M.ext L.ext
     go_wp2_with(refine Aa (vs:=As 0 none 0 0) rfl rfl rfl rfl rfl An b0 rfl (AB _ _ _ _) ?_;intro w9 I q)
     refine oM (Ar rfl An rfl rfl I) rfl ?_;exact⟨D,HP.out.1,Or.inr ⟨Or.inr ⟨HP.out.2,W.out⟩,none,0,0,rfl,(h02.trans L.ext).grownR q ab,TmO.nil _ _⟩⟩
section
variable {P:Program} {w:World}
theorem GT(c:o.guard=none)(l:o.op = .index t x i)(d:Hc P t et)
 {cs:Array Value} {k:Nat} {v:Value} (p:f.eval x = .agg cs) (hi:f.eval i = .int .i64 (k:Int)) (h6:k<6) (j:cs[k]?=some v) (e:wpList P ops Q rest (f.put o.dst v) w):wpList P ops Q (o :: rest) f w:=by
 refine iI c fun K b => ?_;obtain⟨q,a,n⟩:∃ i,P.info? et=some i/\i.size=1:=by
  have:=d.size;cases h:P.info? et with
  | none=>rw[h]at this;cases this
  | some i=>rw[h]at this;exact⟨i,rfl,by simpa using this⟩
 have m:(Instr.index t (.agg cs) (.int .i64 (k:Int))).run P w = .ok v w:=by
  have g:(0:Int)<=(k:Int)/\(k:Int)<((6:Nat):Int):=by omega
  simp only[Instr.index,asIntOf,gI,gS,p9,ip d.arr];rw[pq g];simp[sizeOf,typeInfo,a,n,AX w d cs k v j]
 unfold Oper.wp execOp;simp only[l,p,hi,gI,m,p9,gS,Oper.upon];exact b _ _ e
end
abbrev Xa(a b:List Int):List Int:=Pl.plE a b
def W1(x0 x1 x2 x3 x4 x5 y0 y1 y2 y3 y4 y5:Int):Nat->List Int
 | 0=>[x0,x1,x2,x3,x4,x5]
 | 1=>[x0+y0,x1,x2,x3,x4,x5]
 | 2=>[x0+y0,x1+y1,x2,x3,x4,x5]
 | 3=>[x0+y0,x1+y1,x2+y2,x3,x4,x5]
 | 4=>[x0+y0,x1+y1,x2+y2,x3+y3,x4,x5]
 | 5=>[x0+y0,x1+y1,x2+y2,x3+y3,x4+y4,x5]
 | _=>[x0+y0,x1+y1,x2+y2,x3+y3,x4+y4,x5+y5]
theorem WW(L:xs.length=6)(M:ys.length=6)(v:∀ x∈xs,0<=x/\x<=1099511627776)(b:∀ x∈ys,0<=x/\x<=1099511627776) :
 Calls prog 160 #[Ce xs,Ce ys] w fun e w'=>e = .returned (Ce (Xa xs ys))/\Ext w w':=by
 obtain⟨f,g,i,j,l,m,rfl⟩:=Cs L;obtain⟨n,o,p,q,r,s,rfl⟩:=Cs M;have O:=v f (by simp);have U:=b n (by simp);have P:=v g (by simp);have V:=b o (by simp);have Q:=v i (by simp);have W:=b p (by simp);have R:=v j (by simp);have X:=b q (by simp);have S:=v l (by simp);have Y:=b r (by simp);have T:=v m (by simp);have Z:=b s (by simp);clear v b L M;have hl:Ce [f,g,i,j,l,m] = .agg #[.int .i64 f,.int .i64 g,.int .i64 i,.int .i64 j,.int .i64 l,.int .i64 m]:=rfl
 have I:Ce [n,o,p,q,r,s] = .agg #[.int .i64 n,.int .i64 o,.int .i64 p,.int .i64 q,.int .i64 r,.int .i64 s]:=rfl;rw[hl,I]
 go_enter func160,ntmps160
 go_upto_region 1 with(fail)
 refine CR ?_;intro N D B d C J;have hA0:Arr N w.heap.size 90 ((W1 f g i j l m n o p q r s 0).map (Value.int .i64)):=B;have t:Arr N (w.heap.size+2) 90 (ze.map (Value.int .i64)):=C;have d0:=d.c 0 rfl;have d1:=d.c 1 rfl;have d2:=d.c 2 rfl;have d3:=d.c 3 rfl;have d4:=d.c 4 rfl;have d5:=d.c 5 rfl;clear B d C J;go_wp2
 go_loopw[8] (fun K wr=>∃ k:Nat,K = .int .i64 k/\k<=6/\Ext w wr/\Arr wr w.heap.size 90 ((W1 f g i j l m n o p q r s k).map (Value.int .i64))/\Arr wr (w.heap.size+2) 90 (ze.map (Value.int .i64))) (fun K _=>6-(intOf K).toNat)
 case atStart=>exact⟨0,rfl,by omega,D,hA0,t⟩
 case round =>
  clear hA0 t D d0 d1 d2 d3 d4 d5;obtain⟨k,rfl,hk,y,a,t⟩:=hrel;have H:k=0\/k=1\/k=2\/k=3\/k=4\/k=5\/k=6:=by omega
  rcases H with rfl|rfl|rfl|rfl|rfl|rfl|rfl
  · have z:=a.c 0 rfl;have A:=a.frozen 0;have E:IntKind.i64.wrap (f+n)=f+n:=oP _ (by omega)
    go_wp2_with(refine GT rfl rfl Ct (k:=0) rfl rfl (by omega) rfl ?_)
    go_roundw
    case rel=>exact⟨1,by go_num,by omega,y.setCell (lrf _) _,a.set 0 (.int .i64 (f+n)),t.far (by simp) _⟩
    case measure=>simp[intOf]
  · have z:=a.c 1 rfl;have A:=a.frozen 1;have E:IntKind.i64.wrap (g+o)=g+o:=oP _ (by omega)
    go_wp2_with(refine GT rfl rfl Ct (k:=1) rfl rfl (by omega) rfl ?_)
    go_roundw
    case rel=>exact⟨2,by go_num,by omega,y.setCell (lrf _) _,a.set 1 (.int .i64 (g+o)),t.far (by simp) _⟩
    case measure=>simp[intOf]
  · have z:=a.c 2 rfl;have A:=a.frozen 2;have E:IntKind.i64.wrap (i+p)=i+p:=oP _ (by omega)
    go_wp2_with(refine GT rfl rfl Ct (k:=2) rfl rfl (by omega) rfl ?_)
    go_roundw
    case rel=>exact⟨3,by go_num,by omega,y.setCell (lrf _) _,a.set 2 (.int .i64 (i+p)),t.far (by simp) _⟩
    case measure=>simp[intOf]
  · have z:=a.c 3 rfl;have A:=a.frozen 3;have E:IntKind.i64.wrap (j+q)=j+q:=oP _ (by omega)
    go_wp2_with(refine GT rfl rfl Ct (k:=3) rfl rfl (by omega) rfl ?_)
    go_roundw
    case rel=>exact⟨4,by go_num,by omega,y.setCell (lrf _) _,a.set 3 (.int .i64 (j+q)),t.far (by simp) _⟩
    case measure=>simp[intOf]
  · have z:=a.c 4 rfl;have A:=a.frozen 4;have E:IntKind.i64.wrap (l+r)=l+r:=oP _ (by omega)
    go_wp2_with(refine GT rfl rfl Ct (k:=4) rfl rfl (by omega) rfl ?_)
    go_roundw
    case rel=>exact⟨5,by go_num,by omega,y.setCell (lrf _) _,a.set 4 (.int .i64 (l+r)),t.far (by simp) _⟩
    case measure=>simp[intOf]
  · have z:=a.c 5 rfl;have A:=a.frozen 5;have E:IntKind.i64.wrap (m+s)=m+s:=oP _ (by omega)
    go_wp2_with(refine GT rfl rfl Ct (k:=5) rfl rfl (by omega) rfl ?_)
    go_roundw
    case rel=>exact⟨6,by go_num,by omega,y.setCell (lrf _) _,a.set 5 (.int .i64 (m+s)),t.far (by simp) _⟩
    case measure=>simp[intOf]
  · have hA6:Arr wr w.heap.size 90 ([f+n,g+o,i+p,j+q,l+r,m+s].map (Value.int .i64)):=a;have c0:=hA6.c 0 rfl;have z:=hA6.c 1 rfl;have A:=hA6.c 2 rfl;have c3:=hA6.c 3 rfl;have c4:=hA6.c 4 rfl;have c5:=hA6.c 5 rfl;have a0:([f+n,g+o,i+p,j+q,l+r,m+s].map (Value.int .i64)).toArray=#[.int .i64 (f+n),.int .i64 (g+o),.int .i64 (i+p),.int .i64 (j+q),.int .i64 (l+r),.int .i64 (m+s)]:=rfl
    go_wp2_with(refine Aa (vs:=[f+n,g+o,i+p,j+q,l+r,m+s].map (Value.int .i64)) rfl rfl rfl rfl rfl Rd t rfl (EN _) ?_;intro w9 F G)
    exact oM (Ai rfl Rd rfl F) rfl ⟨rfl,y.grownR G (by omega)⟩
def DJ(l:List Pl.Tm):Int:=l.foldl (fun m t=>max m t.1.sum) (-1)
theorem P8{l:List Pl.Tm}(h:k<l.length):DJ (l.take (k+1))=max (DJ (l.take k)) (l.getD k ([],0)).1.sum:=by
 unfold DJ;rw[oW h,kU];simp[h]
theorem I1{l:List Pl.Tm}(b:GQ l) : -1<=DJ l/\DJ l<=6597069766656:=by
 have c:∀ (l:List Pl.Tm) (m:Int),GQ l -> -1<=m->m<=6597069766656 -> -1<=l.foldl (fun m t=>max m t.1.sum) m/\l.foldl (fun m t=>max m t.1.sum) m<=6597069766656:=by
  intro l
  induction l with
  | nil=>intro m _ h1 h2;exact⟨h1,h2⟩
  | cons t r ih =>
   intro m b h1 h2;obtain⟨h6,a⟩:=b t (by simp);obtain⟨e,f,g,i,j,k,he⟩:=Cs h6;rw[he]at a;have n:=a e (by simp);have o:=a f (by simp);have p:=a g (by simp);have q:=a i (by simp);have v:=a j (by simp);have w:=a k (by simp);refine ih _ (fun s d=>b s (by simp[d])) ?_ ?_
   · simp only[he];omega
   · simp only[he,lO,List.sum_nil];omega
 exact c l (-1) b (by omega) (by omega)
def A6(x0 x1 x2 x3 x4 x5:Int):Nat->Int
 | 0=>0
 | 1=>x0
 | 2=>x0+x1
 | 3=>x0+x1+x2
 | 4=>x0+x1+x2+x3
 | 5=>x0+x1+x2+x3+x4
 | _=>x0+x1+x2+x3+x4+x5
theorem Hr{l:List Pl.Tm}(W:BJ w a n c l)(P:GQ l):Calls prog 81 #[.slice a n c] w fun e w'=>e = .returned (.int .i64 (DJ l))/\Ext w w':=by
 obtain⟨Q,N,v,M⟩:=W;have R:=qh M;have L:=qh P;have x:=qh v;have Z:=N.le;clear M P v
 go_enter func81,ntmps81
 go_wp2
 go_loopw[3,11] (fun mv z wr=>∃ (k:Nat) (m:Int),mv = .int .i64 m/\z = .int .i64 k/\k<=n/\Ext w wr/\Hid (m=DJ (l.take k))) (fun _ z _=>n-(intOf z).toNat)
 case atStart=>exact⟨0,-1,rfl,rfl,oY _,Ext.refl w,qh rfl⟩
 case round =>
  obtain⟨k,m,rfl,rfl,hk,F,G⟩:=hrel;by_cases s:k<n
  · have y:=N.ext F;obtain⟨bb,a0,rfl,_⟩:=y.rd (by omega);obtain⟨sx,S,nx,U,T,mx,V,r,h6,_⟩:=R.out k s;have A:=qh (P8 (l:=l) (k:=k) (by rw[x.out];exact s));have p:=(L.out (l.getD k ([],0)) (by simp[x.out,s])).2;have Y : -1<=m/\m<=6597069766656:=by rw[G.out];exact I1 (fun t ht=>L.out t (iZ ht))
    generalize l.getD k ([],0)=t at *
    obtain⟨te,tq⟩:=t;obtain⟨b,d,f,g,i,o,B⟩:=Cs h6;simp only at B r A p;subst B;have b0:=p b (by simp);have b1:=p d (by simp);have b2:=p f (by simp);have b3:=p g (by simp);have b4:=p i (by simp);have b5:=p o (by simp);have O:=Arr.new wr 92 (Ap [0,0,0,0,0,0] false none 0 0 none 0 0)
    go_upto_region 5 with(first
     | (refine Bz rfl rfl Au rfl y s ?_;rw[r])
     | (refine Aa (vs:=(Ap [b,d,f,g,i,o] sx S nx U T mx V)) rfl rfl rfl rfl rfl Au O rfl AY ?_;intro w3 q D))
    have C:Ext wr w3:=((Ext.refl wr).alloc _).grownR D (lrf _);have I:=F.trans C;clear O D F C r h6 y p;generalize wr.heap.size=X at *
    have c0:=q.c 0 rfl;have c1:=q.c 1 rfl;have c2:=q.c 2 rfl;have c3:=q.c 3 rfl;have c4:=q.c 4 rfl;have c5:=q.c 5 rfl;clear q;go_wp2
    go_loop[6,17] (fun sv z=>∃ j:Nat,sv = .int .i64 (A6 b d f g i o j)/\z = .int .i64 j/\j<=6) (fun _ z=>6-(intOf z).toNat)
    case atStart=>exact⟨0,rfl,rfl,by omega⟩
    case round =>
     obtain⟨j,rfl,rfl,hj⟩:=hrel;have J:j=0\/j=1\/j=2\/j=3\/j=4\/j=5\/j=6:=by omega
     rcases J with rfl|rfl|rfl|rfl|rfl|rfl|rfl
     · have E:IntKind.i64.wrap (A6 b d f g i o 0+b)=A6 b d f g i o 1:=by
        have e:A6 b d f g i o 1=A6 b d f g i o 0+b:=by simp[A6]
        rw[e];exact oP _ (by simp only[A6];omega)
       go_wp2_with(refine GT rfl rfl Ct (k:=0) rfl rfl (by omega) rfl ?_)
       go_round
       case rel=>exact⟨1,rfl,by go_num,by omega⟩
       case measure=>simp[intOf]
     · have E:IntKind.i64.wrap (A6 b d f g i o 1+d)=A6 b d f g i o 2:=by
        have e:A6 b d f g i o 2=A6 b d f g i o 1+d:=by simp[A6]
        rw[e];exact oP _ (by simp only[A6];omega)
       go_wp2_with(refine GT rfl rfl Ct (k:=1) rfl rfl (by omega) rfl ?_)
       go_round
       case rel=>exact⟨2,rfl,by go_num,by omega⟩
       case measure=>simp[intOf]
     · have E:IntKind.i64.wrap (A6 b d f g i o 2+f)=A6 b d f g i o 3:=by
        have e:A6 b d f g i o 3=A6 b d f g i o 2+f:=by simp[A6]
        rw[e];exact oP _ (by simp only[A6];omega)
       go_wp2_with(refine GT rfl rfl Ct (k:=2) rfl rfl (by omega) rfl ?_)
       go_round
       case rel=>exact⟨3,rfl,by go_num,by omega⟩
       case measure=>simp[intOf]
     · have E:IntKind.i64.wrap (A6 b d f g i o 3+g)=A6 b d f g i o 4:=by
        have e:A6 b d f g i o 4=A6 b d f g i o 3+g:=by simp[A6]
        rw[e];exact oP _ (by simp only[A6];omega)
       go_wp2_with(refine GT rfl rfl Ct (k:=3) rfl rfl (by omega) rfl ?_)
       go_round
       case rel=>exact⟨4,rfl,by go_num,by omega⟩
       case measure=>simp[intOf]
     · have E:IntKind.i64.wrap (A6 b d f g i o 4+i)=A6 b d f g i o 5:=by
        have e:A6 b d f g i o 5=A6 b d f g i o 4+i:=by simp[A6]
        rw[e];exact oP _ (by simp only[A6];omega)
       go_wp2_with(refine GT rfl rfl Ct (k:=4) rfl rfl (by omega) rfl ?_)
       go_round
       case rel=>exact⟨5,rfl,by go_num,by omega⟩
       case measure=>simp[intOf]
     · have E:IntKind.i64.wrap (A6 b d f g i o 5+o)=A6 b d f g i o 6:=by
        have e:A6 b d f g i o 6=A6 b d f g i o 5+o:=by simp[A6]
        rw[e];exact oP _ (by simp only[A6];omega)
       go_wp2_with(refine GT rfl rfl Ct (k:=5) rfl rfl (by omega) rfl ?_)
       go_round
       case rel=>exact⟨6,rfl,by go_num,by omega⟩
       case measure=>simp[intOf]
     · have H:Hid (A6 b d f g i o 6=[b,d,f,g,i,o].sum):=qh (by simp[A6];omega);go_wp2;go_roundw
       case rel=>exact⟨k+1,_,rfl,by go_num,by omega,I,qh (by rw[A.out,<-G.out,<-H.out])⟩
       case measure=>simp[intOf];omega
  · have K:k=n:=by omega
    subst K;go_wp2;go_ret;exact⟨Dj (by rw[G.out,oL (by rw[x.out];exact lrf _)]),F⟩
open Classical in
noncomputable def rdP (vars:Int) (ts:List Tx):Option (List Pl.Tm):=if ts.length<=4096/\∀ t r,ts=t :: r->A4 t.2=true then rdWF vars ts else none
theorem Dh{ts:List Tx}(Y:AV w)(h:Be w a n c ts)(S:∀ t∈ts,t.1.length<=570) :
 Calls prog 84 #[.agg #[.int .i64 vars,.slice a n c]] w (V8 w (rdP vars ts)):=by
 have g:=h.len;have d:=fun(J:World) (O:Ext w J) (Z:n<=4096)=>qh (Nk (vars:=vars) (Y.ext O) (h.ext O) S Z);have A:¬ n<=4096->rdP vars ts=none:=fun h=>by unfold rdP;exact pf (fun h'=>h (by omega))
 obtain⟨V,P,_,F⟩:=h;have a0:=P.le
 go_enter func84,ntmps84
 go_upto_region 1 with(fail)
 refine AM ?_;intro w0 x v H;have p0:=v.c 0 rfl;have U:=v.c 1 rfl;clear v H S;by_cases Q:4096<n
 · have m:=qh (A (by omega));go_wp2
   go_ret2
   rw[m.out];exact⟨none,0,0,rfl,x,BJ.nil _⟩
 · have d:=d w0 x (by omega);clear A
   go_wp2_with fail
   refine d.out.mono ?_;rintro e I ⟨L,T,N,rfl,z,k⟩;have U:=z.cell U;have i:=x.trans z;cases b:rdWF vars ts with
   | none =>
    have m:Hid (rdP vars ts=none):=qh (by unfold rdP;rw[b];split <;> rfl);rw[b]at k;clear d b;go_wp2
    go_ret2
    rw[m.out];exact⟨none,0,0,rfl,i,BJ.nil _⟩
   | some l =>
    rw[b]at k;simp only[pg,jD]at k |-;rcases oV n with h0|h0
    · have m:Hid (rdP vars ts=some l):=qh (by
       unfold rdP
       rw[b,pq ⟨by omega,fun t r e=>by rw[e]at g;simp at g;omega⟩])
      have E:¬ ((0:Int)<(n:Int)):=by omega
      clear d b;go_wp2
      go_ret2
      rw[m.out];exact⟨L,T,N,rfl,i,k⟩
    · have E:(0:Int)<(n:Int):=by omega
      obtain⟨M,B,rfl,C⟩:=(P.ext i).rd h0;obtain⟨s,W,nx,X,q,_,G⟩:=F 0 h0;have o:=C 0 h0 1 (by omega);rw[q]at o;have R:I.cell? ⟨M,B+1,none⟩=some (.slice W nx X):=o;have f:=C 0 h0 0 (by omega);rw[q]at f;have D:I.cell? ⟨M,B,none⟩=some (.string s):=by simpa using f
      have p:=fun(J:World) (F:Ext I J)=>qh (EF ((G.ext i).ext F));have K:Hid (∀ t r,ts=t :: r->t.2=(ts.getD 0 tm0).2):=qh (fun t r e=>by rw[e];rfl);generalize (ts.getD 0 tm0).2=xs at *
      cases j:A4 xs with
      | true =>
       have m:Hid (rdP vars ts=some l):=qh (by
        unfold rdP
        rw[b,pq ⟨by omega,fun t r e=>by rw[K.out t r e];exact j⟩])
       rw[j]at p;clear d b j C o f
       go_wp2_with fail
       refine(p _ (Ext.refl _)).out.mono ?_;rintro e w2 ⟨rfl,rfl⟩;go_wp2
       go_ret2
       rw[m.out];exact⟨L,T,N,rfl,i,k⟩
      | false =>
       have m:Hid (rdP vars ts=none):=qh (by
        unfold rdP;rw[pf];rintro⟨_,h2⟩;cases y:ts with
        | nil=>rw[y]at g;simp at g;omega
        | cons t r =>
         have h3:=h2 t r y;rw[K.out t r y,j]at h3
         cases h3)
       rw[j]at p;clear d b j C o f
       go_wp2_with fail
       refine(p _ (Ext.refl _)).out.mono ?_;rintro e w2 ⟨rfl,rfl⟩;go_wp2
       go_ret2
       rw[m.out];exact⟨none,0,0,rfl,i,BJ.nil _⟩
theorem I2{ts:List Tx}(l:AV w)(h:Be w a n c ts)(m:∀ t∈ts,t.1.length<=570) :
 Calls prog 27 #[.agg #[.int .i64 vars,.slice a n c]] w fun e p=>e = .returned (.bool (rdP vars ts).isSome)/\Ext w p:=by
 have f:=fun(q:World) (j:Ext w q)=>qh (Dh (vars:=vars) (l.ext j) (h.ext j) m);obtain⟨o,k⟩:∃ o,rdP vars ts=o:=⟨_,rfl⟩;rw[k]at f |-;clear k
 go_enter func27,ntmps27
 go_upto_region 1 with(fail)
 refine AM ?_;intro z d b i;have x:=b.c 0 rfl;have y:=b.c 1 rfl;clear b i
 go_wp2_with fail
 refine(f _ d).out.mono ?_;rintro e A ⟨r,v,s,rfl,g,_⟩;go_wp2;go_ret;exact⟨rfl,d.trans g⟩
end Go.Proofs.YtlbmnokpiilfpaaGreatDoor
