/- Part Gav29. -/
import Derived.Test.YtlpgonpfjbhmfaaGreatDoorGav26
import Derived.Test.YtlpgonpfjbhmfaaGreatDoorGav15
import Derived.ArgAppend
import Derived.Test.YtlpgonpfjbhmfaaGreatDoorGav28
import Derived.Test.YtlpgonpfjbhmfaaGreatDoorGav4
import Derived.Test.YtlpgonpfjbhmfaaGreatDoorGav19
import Derived.Shelf.SlLaysF0
import Derived.Test.YtlpgonpfjbhmfaaGreatDoorProg
set_option maxRecDepth 100000
set_option maxHeartbeats 100000000
namespace Go.Proofs.YtlpgonpfjbhmfaaGreatDoor
open Tryz Go Go.RowKit
variable {f:Act} {ad:Addr} {ops:Array Oper} {Q:Exit→Act→World→Prop} {vars:Int} {m:List (List Int×Value)} {news rows:List (List Value)} {seen:List Nat} {rest:List Oper} {cs zs:List Value} {base c cx g it k n r:Nat} {o:Oper} {l s x y:Operand} {a:Option Addr} {row:Option Nat} {P:Program} {e et kt mt t ty vt:TypeId} {w w':World}
def NoU (w:World) (g:Nat):Prop:=∀ j i,w.cell? ⟨g,j,none⟩≠some (.int .u64 i)
def nuR (rows:List (List Value)):Prop:=∀ r∈rows,∀ v∈r,∀ i,v ≠ .int .u64 i
theorem Arr.noU (h:Arr w g t cs) (hc:∀ v∈cs,∀ i,v ≠ .int .u64 i):NoU w g:=by
 intro j i e;have h4:w.cell? ⟨g,j,none⟩=cs[j]?:=by
  unfold Arr at h;simp [World.cell?,h]
 rw [h4] at e;exact hc _ (List.mem_of_getElem? e) _ rfl
theorem NoU.ext (h:NoU w g) (hg:g<w.heap.size) (e:Ext w w'):NoU w' g:=by
 intro j i;rw [World.cell?_of_block (w:=w) (e.block (k:=g) hg)];exact h j i
theorem NoU.kept (h:NoU w g) (hlt:g<w.heap.size) (hg:w.grownBy w' row) (hne:some g≠row):NoU w' g:=by
 intro j i;rw [World.cell?_of_block (w:=w) (hg.block g hlt hne)];exact h j i
theorem Wd.keptU {x:Nat} (h:Wd w a n c x) (hU:NoU w g) (hg:w.grownBy w' (some g)):Wd w' a n c x:=by
 obtain ⟨xs,h1,h2⟩:=h;refine ⟨xs, ?_,h2⟩;rcases Nat.eq_zero_or_pos n with h0|h0
 · subst h0;exact ⟨Sl.len h1,Sl.cap h1,Sl.max h1,fun h=>absurd h (Nat.lt_irrefl _)⟩
 · refine h1.kept hg (Or.inr fun he => ?_);obtain ⟨b,o,rfl,hc⟩:=h1.at (j:=0) h0;simp only [blk,Option.map_some,Option.some.injEq] at he;subst he;exact hU _ _ (hc 0 h0)
def E9 (w:World) (base:Nat) (e:TypeId) (k g n c:Nat) (rows:List (List Value)):Prop:=A3 w base e k (some ⟨g,0,none⟩) n c rows∧NoU w g
section
variable {w w':World} {base:Nat} {e:TypeId} {k g n c:Nat} {rows:List (List Value)}
theorem E9.lt (h:E9 w base e k g n c rows):base≤g∧g<w.heap.size:=h.1.lt rfl
theorem E9.ext (h:E9 w base e k g n c rows) (x:Ext w w'):E9 w' base e k g n c rows:=⟨h.1.ext x,h.2.ext h.lt.2 x⟩
theorem E9.kept {row:Option Nat} (h:E9 w base e k g n c rows) (hg:w.grownBy w' row) (hne:some g≠row):E9 w' base e k g n c rows:=⟨h.1.kept hg (Or.inr hne),h.2.kept h.lt.2 hg hne⟩
theorem E9.nu (hk:0<k) (h:E9 w base e k g n c rows):nuR rows:=by
 have hs:=h.1.slk hk;intro r hr v hv i;obtain ⟨p,hp,rfl⟩:=List.mem_iff_getElem.1 hr;obtain ⟨q,hq,rfl⟩:=List.mem_iff_getElem.1 hv;have hpn:p<n:=by rw [←hs.len]; exact hp
 have hqk:q<k:=by rw [←hs.wid _ hr]; exact hq
 obtain ⟨b,off,e,hc⟩:=hs.rd (by omega);simp only [Option.some.injEq,Addr.mk.injEq,and_true] at e;obtain ⟨rfl,rfl⟩:=e;have h1:=hc p hpn q hqk;have h2:(rows.getD p []).getD q undef=(rows[p])[q]:=by simp [hp,hq]
 rw [h2] at h1;intro he;rw [he] at h1;exact h.2 _ _ h1
end
section
variable {P:Program} {w:World}
theorem Sj {bytes:Nat} {m:Nat} 
 (ht:P.underlying t=some (.slice e)) (hinfo:El P e zs k bytes) (hown:E9 w base e k g n c rows) (hsl:SlK w k (some ad) m cx news)
 (h1:∀ r∈news,∀ u∈r,u.oneCell'=true) (hnu:nuR news) (hroom:n+m≤c) (hbytes:(n+m)*bytes≤140737488355328) (hbase:base≤w.heap.size) :
 ∃ w',(Builtin.append_ #[t,t] ty #[.slice (some ⟨g,0,none⟩) n c, .slice (some ad) m cx]).run P w = .ok (.slice (some ⟨g,0,none⟩) (n+m) c) w'∧E9 w' base e k g (n+m) c (rows ++ news)∧w.grownBy w' (some g):=by
 have hmax:=(hown.1.slk hinfo.2.2).max;obtain ⟨a',c',w',hrun,h2,h3,h4⟩:=Nu (P:=P) (ty:=ty) ht hinfo hown.1 hsl h1 (by omega) hbytes hbase;obtain ⟨i,hi,hz,hsize,hby⟩:=hinfo.parts;have hk:=hinfo.2.2;have hfl:=Cl news hsl.wid;rw [hsl.len] at hfl;have hcells:∀ j u,news.flatten[j]?=some u→w.cell? (ad.add j)=some u:=by
  intro j u hu;have hj:j<news.flatten.length:=by
   rcases Nat.lt_or_ge j news.flatten.length with h|h
   · exact h
   · simp [List.getElem?_eq_none h] at hu
  rw [hfl] at hj;have hm0:0<m:=by rcases Nat.eq_zero_or_pos m with h | h; (rw [h,Nat.zero_mul] at hj; omega); exact h
  obtain ⟨b,o,h,hc⟩:=hsl.rd hm0;injection h with h;subst h;have hjd:j/k<m:=(Nat.div_lt_iff_lt_mul hk).2 hj;have hjm:j%k<k:=Nat.mod_lt _ hk;have hje:j=j/k*k+j%k:=by rw [Nat.mul_comm]; exact (Nat.div_add_mod j k).symm
  have h2:=hc (j/k) hjd (j%k) hjm;have h3:=Ek news hsl.wid (j/k) (j%k) hjm;rw [←hje,hu] at h3;have hl:j/k<news.length:=by rw [hsl.len]; exact hjd
  rw [List.getElem?_eq_getElem hl,Option.bind_some] at h3;have h4:(news.getD (j/k) []).getD (j%k) undef=u:=by
   rw [gqq (l:=news),List.getElem?_eq_getElem hl,Option.getD_some,gqq,←h3];rfl
  rw [h4,Nat.add_assoc,←hje] at h2;rw [←h2];unfold Addr.add;by_cases h0:j=0 <;> simp [h0]
 rcases hown.1.2.2 with ⟨hv,_⟩|⟨g',cap,cur,hv,hb,hh,hnc,hm,hs,htk⟩
 · simp at hv
 simp only [Value.slice.injEq,Option.some.injEq,Addr.mk.injEq,and_true,true_and] at hv;obtain ⟨rfl,rfl⟩:=hv;have hin:∀ j,j<news.flatten.length→n*k+j<cur.size:=by
  intro j hj;rw [hfl] at hj;have:(n+m)*k≤c*k:=Nat.mul_le_mul_right k hroom;rw [Nat.add_mul] at this;omega
 have hcs:∀ j,j<news.flatten.length→(w.cell? ⟨g,n*k+j,none⟩).isSome=true:=by
  intro j hj;rw [cell_of_row w g _ cur e (0,0) hh,Array.getElem?_eq_getElem (hin j hj)];rfl
 have hr2:=run_append_room_cells (P:=P) (w:=w) t ty e i ht hi g 0 n c ad m cx news.flatten (by rw [hfl,hsize]) hcells (by intro u hu; obtain ⟨r,hr,hu⟩:=List.mem_flatten.1 hu; exact h1 r hr u hu) hroom (by rw [hsize,Nat.zero_add]; exact hcs) (by intro j hj; simp [World.frozen?,hh]);rw [hrun,hsize,Nat.zero_add] at hr2;simp only [Result.ok.injEq,Value.slice.injEq,true_and] at hr2;obtain ⟨⟨rfl,rfl⟩,rfl⟩:=hr2;refine ⟨_,hrun,⟨h2, ?_⟩,h3⟩;intro j q he;by_cases hj:n*k≤j∧j<n*k+news.flatten.length
 · obtain ⟨p,rfl⟩:∃ p,j=n*k+p:=⟨j-n*k,by omega⟩;have hp:p<news.flatten.length:=by omega
   rw [World.cell?_setCells_in g news.flatten (n*k) w hcs p hp] at he;simp only [Option.some.injEq] at he;obtain ⟨r,hr,hu⟩:=List.mem_flatten.1 (List.getElem_mem hp);exact hnu r hr _ hu q he
 · rw [World.cell?_setCells_out g news.flatten (n*k) w ⟨g,j,none⟩ (fun _ _=>by simp only; omega)] at he;exact hown.2 j q he
theorem Mo (hgd:o.guard=none)
 (ho:o.op = .call { callee := .builtin .append,args:=#[s,x],argTypes:=#[t,t] })
 {e:TypeId} {zs:List Value} {k bytes base:Nat} {g n c:Nat} {rows:List (List Value)} {ad:Addr} {m cx:Nat} {news:List (List Value)}
 (ht:P.underlying t=some (.slice e)) (hinfo:El P e zs k bytes) (hs:f.eval s = .slice (some ⟨g,0,none⟩) n c) (hown:E9 w base e k g n c rows) (hx:f.eval x = .slice (some ad) m cx) (hsl:SlK w k (some ad) m cx news)
 (h1:∀ r∈news,∀ u∈r,u.oneCell'=true) (hnu:nuR news) (hroom:n+m≤c) (hbytes:(n+m)*bytes≤140737488355328) (hbase:base≤w.heap.size)
 (h:∀ w',E9 w' base e k g (n+m) c (rows ++ news)→w.grownBy w' (some g)→wpList P ops Q rest (f.put o.dst (.slice (some ⟨g,0,none⟩) (n+m) c)) w') :
 wpList P ops Q (o :: rest) f w:=by
 refine wpList_plain hgd fun _ hK => ?_;obtain ⟨w',hrun,h2,h3⟩:=Sj (P:=P) (ty:=o.type) ht hinfo hown hsl h1 hnu hroom hbytes hbase;unfold Oper.wp execOp;simp only [ho,resolve,invoke,builtin,Sem.run_bind,Sem.run_pure,Result.andThen_ok,List.map_toArray,List.map_cons,List.map_nil,hs,hx,hrun];exact hK _ _ (h w' h2 h3)
theorem A3.noU (h:A3 w base e k (some ⟨g,0,none⟩) n n rows) (hn:nuR rows):NoU w g:=by
 rcases h.2.2 with ⟨hv,_⟩|⟨g',cap,cur,hv,hb,hh,hnc,hm,hs,htk⟩
 · simp at hv
 simp only [Value.slice.injEq,Option.some.injEq,Addr.mk.injEq,and_true,true_and] at hv;obtain ⟨rfl,rfl⟩:=hv;intro j i he;rw [cell_of_row w g _ cur e (0,0) hh] at he;have hj:j<cur.size:=(Array.getElem?_eq_some_iff.1 he).1;have h2:cur.toList=rows.flatten:=by rw [←htk,List.take_of_length_le (by simp [hs])]
 have h3:rows.flatten[j]?=some (.int .u64 i):=by rw [←h2]; simpa using he
 obtain ⟨r,hr,hu⟩:=List.mem_flatten.1 (List.mem_of_getElem? h3);exact hn r hr _ hu i rfl
theorem PN {c:Operand} (hg:o.guard=none) (hop:o.op=Op.makeSlice t l c)
 {e:TypeId} {zs:List Value} {k bytes n:Nat} (ht:P.underlying t=some (.slice e)) (hinfo:El P e zs k bytes) (hzu:∀ v∈zs,∀ i,v ≠ .int .u64 i) (hl:f.eval l = .int .i64 0) (hc:f.eval c = .int .i64 n)
 (hb:bytes*n≤281474976710656) (h63:n≤maxLen)
 (hK:∀ w',E9 w' w.heap.size e k w.heap.size 0 n []→Ext w w'→wpList P ops Q rest (f.put o.dst (.slice (some ⟨w.heap.size,0,none⟩) 0 n)) w') :
 wpList P ops Q (o :: rest) f w:=by
 refine wpList_plain hg fun K hK' => ?_;obtain ⟨i,hi,hz,hsize,hby⟩:=hinfo.parts;obtain ⟨w',hrun,h2,h3⟩:=run_make_own (P:=P) w w.heap.size t e i (.agg zs.toArray) k ht hi hz hsize .i64 .i64 n (by rw [hby]; exact hb) h63 (lrf _);have h63':(n:Int)≤9223372036854775807:=by
  have h:=h63;simp [maxLen] at h;omega
 have hb':(i.bytes:Int)*(n:Int)≤281474976710656:=by
  rw [hby];have h:((bytes*n:Nat):Int)≤281474976710656:=by omega
  rwa [Int.natCast_mul] at h
 have hr:=run_make (P:=P) w t e i (.agg zs.toArray) ht hi hz .i64 .i64 0 n (Int.le_refl _) (by omega) hb' h63';simp only [Int.toNat_zero,Int.toNat_natCast] at hr;rw [hrun] at hr;simp only [Result.ok.injEq,true_and] at hr;have h4:(Value.agg zs.toArray).cells=zs.toArray:=rfl;have hA:Arr w' w.heap.size e (List.replicate n zs).flatten:=by
  have h5:=Ln (n:=n) hinfo.2.1 hinfo.2.2;rw [hr,hsize,h4];unfold Arr;rw [←h5];exact heap_alloc_new w _
 have hU:NoU w' w.heap.size:=hA.noU (fun v hv i=>by
  obtain ⟨r,hr,hu⟩:=List.mem_flatten.1 hv;rw [(List.mem_replicate.1 hr).2] at hu
  exact hzu v hu i)
 unfold Oper.wp execOp;simp only [hop,Sem.run_bind,Sem.run_pure,Result.andThen_ok,hl,hc,hrun,Oper.upon];exact hK' _ _ (hK w' ⟨⟨(fun r hr=>by cases hr),h2⟩,hU⟩ ((Ext.refl w).grown h3 (by simp)))
end
abbrev Tx:=List UInt8×List Int
def tm0:Tx:=([],[])
def Sk (w:World) (row:List Value) (t:Tx):Prop:=∃ s a n c,row=[.string s, .slice a n c]∧Am s=t.1∧SlI w a n c t.2
theorem Sk.ext {w w':World} {row:List Value} {t:Tx} (h:Sk w row t) (e:Ext w w'):Sk w' row t:=by
 obtain ⟨s,a,n,c,h1,h2,h3⟩:=h;exact ⟨s,a,n,c,h1,h2,h3.ext e⟩
def CJ (w:World) (a:Option Addr) (n c:Nat) (ts:List Tx):Prop:=∃ rows,SlK w 2 a n c rows∧ts.length=n∧∀ i,i<n→Sk w (rows.getD i []) (ts.getD i tm0)
theorem CJ.ext {w w':World} {a:Option Addr} {n c:Nat} {ts:List Tx} (h:CJ w a n c ts) (e:Ext w w'):CJ w' a n c ts:=by
 obtain ⟨rows,h1,h2,h3⟩:=h;exact ⟨rows,h1.ext e,h2,fun i hi=>(h3 i hi).ext e⟩
theorem CJ.len {ts:List Tx} (h:CJ w a n c ts):ts.length=n:=by
 obtain ⟨rows,h1,h2,h3⟩:=h;exact h2
theorem Cy:Agg prog 60 2:=⟨by kernel_rfl,by kernel_rfl⟩
theorem AK:Agg prog 25 2:=⟨by kernel_rfl,by kernel_rfl⟩
def tmL (s:ByteArray) (a:Option Addr) (n c:Nat):List Value:=[.string s, .slice a n c]
theorem EL (s:ByteArray) (a:Option Addr) (n c:Nat):∀ v∈tmL s a n c,v.oneCell'=true:=by
 intro v hv;simp only [tmL,List.mem_cons,List.not_mem_nil,or_false] at hv;rcases hv with rfl|rfl <;> rfl
theorem IB {t:Tx} (h:(A9 vars t).isSome=true):(t.2.length:Int)=vars∧∀ e∈t.2,0≤e∧e≤1048576:=by
 unfold A9 at h;split at h
 · simp at h
 · split at h
   · rename_i h1;exact ⟨h1.2.1,h1.2.2⟩
   · simp at h
def z6:Pl.Tm:=([0,0,0,0,0,0],0)
def okT (vars:Int) (ts:List Tx) (k:Nat):Prop:=(∀ i,i<k→(A9 vars (ts.getD i tm0)).isSome=true)∧∀ i,i+1<k→0<Pl.ordE (ts.getD i tm0).2 (ts.getD (i+1) tm0).2
open Classical in
noncomputable def rdWF (vars:Int) (ts:List Tx):Option (List Pl.Tm):=if 0≤vars∧vars≤6∧okT vars ts ts.length then some (ts.map (fun t=>(A9 vars t).getD z6)) else none
def VS (w:World) (o:Option (List Pl.Tm)) (e:Ending) (w':World):Prop:=∃ a n c,e = .returned (.tuple #[.slice a n c, .bool o.isSome])∧Ext w w'∧Cx w' a n c (o.getD [])
theorem Cx.nil (w:World):Cx w none 0 0 []:=⟨[],SlK.nil w 10,rfl,fun i hi=>absurd hi (by omega)⟩
theorem Cm.keptU {w w':World} {row:List Value} {t:Pl.Tm} {g:Nat} (h:Cm w row t) (hU:NoU w g) (hg:w.grownBy w' (some g)):Cm w' row t:=by
 obtain ⟨s,a,n,c,b,m,d,h1,h2,s',a',n',c',b',m',d',h3,h4,h5,h6⟩:=h;exact ⟨s,a,n,c,b,m,d,h1,h2,s',a',n',c',b',m',d',h3,h4,h5.keptU hU hg,h6.keptU hU hg⟩
theorem GZ {row:List Value} (h:Arr w g t row) (hl:row.length=k):SlK w k (some ⟨g,0,none⟩) 1 1 [row]:=by
 refine ⟨rfl,lrf _,by unfold maxLen; omega,by simpa using hl,fun _=>⟨g,0,rfl,fun i hi j hj => ?_⟩⟩;have hi0:i=0:=by omega
 subst hi0;rw [Nat.zero_mul,Nat.zero_add];rw [h.cell (by omega)];rfl
theorem Nx {ts:List Tx} (hT:A2 w) (h:CJ w a n c ts) (hs:∀ t∈ts,t.1.length≤570) (hn:n≤4096) :
 Calls prog 79 #[.agg #[.int .i64 vars, .slice a n c]] w (VS w (rdWF vars ts)):=by
 have HS:=qh hs;clear hs;have hlen:=h.len;obtain ⟨rows,hS,_,hq⟩:=h;have HQ:=qh hq;clear hq;obtain ⟨r,hr⟩:∃ r,rdWF vars ts=r:=⟨_,rfl⟩;rw [hr];have HR:=qh hr;clear hr;by_cases hv:0≤vars∧vars≤6
 · obtain ⟨hv0,hv6⟩:=hv
   go_enter func79,ntmps79
   go_upto_region 1 with (fail)
   refine Bq ?_;intro w0 hE0 hB0 hz0;have u0:=hB0.c 0 rfl;have u1:=hB0.c 1 rfl;clear hB0 hz0
   go_upto_region 4 with (refine PN rfl rfl (by kernel_rfl) C0 B2 rfl rfl (by omega) (by unfold maxLen; omega) ?_; intro w1 hO1 hE1)
   have v1:=hE1.cell u1;go_wp2
   go_loopw [4,24] (fun tv iv wr=>∃ (k:Nat) (rs:List (List Value)),tv = .slice (some ⟨w0.heap.size,0,none⟩) k n∧iv = .int .i64 k∧k≤n∧Ext w0 wr∧E9 wr w0.heap.size 111 10 w0.heap.size k n rs∧Hid (okT vars ts k)∧Hid (∀ i,i<k→Cm wr (rs.getD i []) ((A9 vars (ts.getD i tm0)).getD z6))) (fun _ iv _=>n-(intOf iv).toNat)
   case atStart=>exact ⟨0,[],rfl,rfl,Nat.zero_le _,hE1,hO1,qh ⟨fun i hi=>absurd hi (by omega),fun i hi=>absurd hi (by omega)⟩,qh (fun i hi=>absurd hi (by omega))⟩
   case round =>
    obtain ⟨k,rs,rfl,rfl,hk,hE,hO,HK,HC⟩:=hrel;by_cases hlt:k<n
    · have hEw:=hE0.trans hE;have hSw:=hS.ext hEw;obtain ⟨b,off,rfl,hcl⟩:=hSw.rd (by omega);obtain ⟨s,ax,nx,cx,hrow,hst,hxs⟩:=HQ.out k hlt;have hY:=Arr.new wr 60 (tmL ⟨#[]⟩ none 0 0)
      go_upto_region 7 with (first
       | (refine CZ rfl rfl Cy rfl hSw hlt ?_; rw [hrow])
       | (refine Aa (vs:=tmL s ax nx cx) rfl rfl rfl rfl rfl Cy hY rfl (EL _ _ _ _) ?_; intro w2 hB2 hg2))
      have hE2:Ext wr w2:=((Ext.refl wr).alloc _).grownR hg2 (lrf _);have hEw2:=hE.trans hE2;have hO2:=hO.ext hE2;have HC2:Hid (∀ i,i<k→Cm w2 (rs.getD i []) ((A9 vars (ts.getD i tm0)).getD z6)):=qh fun i hi=>(HC.out i hi).ext hE2;have v0:=hEw2.cell u0;have v1:=hEw2.cell u1;have hX:w0.heap.size<wr.heap.size:=hO.lt.2;have hxs2:=hxs.ext (hE0.trans hEw2);have hST:=qh hst;have hsz:s.size≤570:=by
       rw [←AJ,hst];exact HS.out _ (by simp [hlen,hlt])
      clear hY hg2 hO HC hE hE2 hrow hst hcl hSw;generalize wr.heap.size=X at *
      have y0:=hB2.c 0 rfl;have y1:=hB2.c 1 rfl;have hrt:=K1 (vars:=vars) (hT.ext (hE0.trans hEw2)) hsz hxs2 hv6;have HT2:Hid (A9 vars (Am s,(ts.getD k tm0).2)=A9 vars (ts.getD k tm0)):=qh (by rw [hST.out]);rw [HT2.out] at hrt;have HRT:=qh hrt;clear hrt
      go_wp2_with fail
      refine HRT.out.mono ?_;rintro e w3 ⟨row,rfl,hE3,s3,a3,n3,c3,b3,m3,d3,hrow,h6,hrc⟩;obtain ⟨o,HO⟩:∃ o,Hid (A9 vars (ts.getD k tm0)=o):=⟨_,qh rfl⟩;rw [HO.out] at h6 hrow hrc ⊢;obtain ⟨x0,x1,x2,x3,x4,x5,h6e⟩:=Dr h6;rw [h6e] at hrow;have HEC:Hid (Cm w3 (At [x0,x1,x2,x3,x4,x5] s3 a3 n3 c3 b3 m3 d3) (o.getD ([0,0,0,0,0,0],0))):=qh ⟨s3,a3,n3,c3,b3,m3,d3,by rw [h6e],h6,hrc⟩;subst hrow;clear h6e h6 hrc
      have hl3:(At [x0,x1,x2,x3,x4,x5] s3 a3 n3 c3 b3 m3 d3).toArray=#[.int .i64 x0, .int .i64 x1, .int .i64 x2, .int .i64 x3, .int .i64 x4, .int .i64 x5, .bool s3, .slice a3 n3 c3, .bool false, .slice b3 m3 d3]:=rfl;have hY:=Arr.new w3 111 (At ze false none 0 0 none 0 0)
      go_upto_region 8 with (refine Aa (vs:=At [x0,x1,x2,x3,x4,x5] s3 a3 n3 c3 b3 m3 d3) rfl rfl rfl rfl rfl AA hY rfl Bk ?_; intro w4 hY4 hg4)
      have hE4:Ext w3 w4:=((Ext.refl w3).alloc _).grownR hg4 (lrf _);have hE24:=hE3.trans hE4;have hEw4:=hEw2.trans hE24;have hO4:=hO2.ext hE24;have HC4:Hid (∀ i,i<k→Cm w4 (rs.getD i []) ((A9 vars (ts.getD i tm0)).getD z6)):=qh fun i hi=>(HC2.out i hi).ext hE24;have HEC4:Hid (Cm w4 (At [x0,x1,x2,x3,x4,x5] s3 a3 n3 c3 b3 m3 d3) (o.getD ([0,0,0,0,0,0],0))):=qh (HEC.out.ext hE4);have q1:=hE24.cell v1;have z1:=hE24.cell y1;have hXY:X<w3.heap.size:=(hB2.ext hE3).lt;have HE24:=qh hE24;clear hY hg4 hO2 HC2 hE3 hE4 HEC hl3 v0 v1 y0 y1 hEw2 hB2 hE24 HRT;generalize w3.heap.size=Y at *
      cases o with
      | none =>
       have HF:Hid (r=none):=qh (by
        rw [←HR.out];unfold rdWF;rw [if_neg];rintro ⟨_,_,h1,_⟩;have:=h1 k (by omega);rw [HO.out] at this
        simp at this)
       go_quiet (fail)
       go_wp2
       go_ret2
       rw [HF.out];exact ⟨none,0,0,rfl,(hE0.trans hEw4).drewN _,Cx.nil _⟩
      | some tm =>
       simp only [Option.getD_some] at HEC4;have hb1:=IB (vars:=vars) (t:=ts.getD k tm0) (by rw [HO.out]; rfl);have hl1:=hxs2.len;by_cases hk0:k=0
       · subst hk0;have HOK:Hid (okT vars ts (0+1)):=qh ⟨fun i hi=>by rw [show i=0 by omega,HO.out]; rfl,fun i hi=>absurd hi (by omega)⟩
         go_quiet (fail)
         have hYW:Arr (w4.drewN nq) Y 111 (At [x0,x1,x2,x3,x4,x5] s3 a3 n3 c3 b3 m3 d3):=hY4;have hEwW:=hEw4.drewN nq;have hOW:=hO4.ext ((Ext.refl w4).drewN nq);have HCW:Hid (∀ i,i<0→Cm (w4.drewN nq) (rs.getD i []) ((A9 vars (ts.getD i tm0)).getD z6)):=qh fun i hi=>absurd hi (by omega);have HECW:Hid (Cm (w4.drewN nq) (At [x0,x1,x2,x3,x4,x5] s3 a3 n3 c3 b3 m3 d3) tm):=qh (HEC4.out.ext ((Ext.refl w4).drewN nq));clear hY4 hEw4 hO4 HC4 HEC4 q1 z1;generalize w4.drewN nq=w5 at *
         have hY5:Arr w5 Y 111 (At [x0,x1,x2,x3,x4,x5] s3 a3 n3 c3 b3 m3 d3):=hYW;have hE5:Ext w5 (w5.alloc (.cells (At [x0,x1,x2,x3,x4,x5] s3 a3 n3 c3 b3 m3 d3).toArray 111)):=(Ext.refl w5).alloc _;have hA5:=hOW.ext hE5;have hL5:=GZ (k:=10) (Arr.new w5 111 (At [x0,x1,x2,x3,x4,x5] s3 a3 n3 c3 b3 m3 d3)) rfl;have hl3:(At [x0,x1,x2,x3,x4,x5] s3 a3 n3 c3 b3 m3 d3).toArray=#[.int .i64 x0, .int .i64 x1, .int .i64 x2, .int .i64 x3, .int .i64 x4, .int .i64 x5, .bool s3, .slice a3 n3 c3, .bool false, .slice b3 m3 d3]:=rfl
         have hbs:w0.heap.size≤(w5.alloc (.cells (At [x0,x1,x2,x3,x4,x5] s3 a3 n3 c3 b3 m3 d3).toArray 111)).heap.size:=(hEwW.trans hE5).size;rw [hl3] at hA5 hL5 hbs;have HEW:=qh (hEwW.trans hE5);have HCW5:Hid (∀ i,i<0→Cm (w5.alloc (.cells (At [x0,x1,x2,x3,x4,x5] s3 a3 n3 c3 b3 m3 d3).toArray 111)) (rs.getD i []) ((A9 vars (ts.getD i tm0)).getD z6)):=qh fun i hi=>(HCW.out i hi).ext hE5;have HEC5:Hid (Cm (w5.alloc (.cells (At [x0,x1,x2,x3,x4,x5] s3 a3 n3 c3 b3 m3 d3).toArray 111)) (At [x0,x1,x2,x3,x4,x5] s3 a3 n3 c3 b3 m3 d3) tm):=qh (HECW.out.ext hE5)
         have hAg5:Agg prog 111 (At [x0,x1,x2,x3,x4,x5] s3 a3 n3 c3 b3 m3 d3).length:=AA
         go_wp2_with (first
          | (refine A5 rfl rfl hAg5 rfl hY5 ?_; rw [hl3])
          | (refine Mo rfl rfl (by kernel_rfl) C0 rfl hA5 rfl hL5 (by intro r hr u hu; rw [List.mem_singleton.1 hr] at hu; exact Bk u hu) (by intro r hr u hu; rw [List.mem_singleton.1 hr] at hu; exact B2 u hu) (by omega) (by omega) hbs ?_; intro w7 hO7 hg7))
         go_roundw
         case rel =>
          refine ⟨0+1,_,rfl,by go_num,by omega,HEW.out.grownR hg7 (lrf _),hO7,HOK,qh fun i hi => ?_⟩;have hrl:=hOW.1.len (by omega);by_cases hik:i=0
          · subst hik;rw [HO.out,Option.getD_some,gqq,List.getElem?_append_right (by omega),hrl,Nat.sub_self];exact HEC5.out.keptU hA5.2 hg7
          · rw [gqq,List.getElem?_append_left (by omega),←gqq];exact (HCW5.out i (by omega)).keptU hA5.2 hg7
         case measure=>simp [intOf]; omega
       · have hSw:=hS.ext (hE0.trans hEw4);obtain ⟨b2,off2,hab,hcl⟩:=hSw.rd (by omega);simp only [Option.some.injEq,Addr.mk.injEq,and_true] at hab;obtain ⟨rfl,rfl⟩:=hab;obtain ⟨j,rfl⟩:∃ j,k=j+1:=⟨k-1,by omega⟩;obtain ⟨sp,ap,np,cp,hrowp,_,hxp⟩:=HQ.out j (by omega);have hb2:=IB (vars:=vars) (t:=ts.getD j tm0) (HK.out.1 j (by omega));have hl2:=hxp.len;have hcj:=hcl j (by omega) 1 (by omega);rw [hrowp] at hcj;have hcj':w4.cell? ⟨b,off+j*2+1,none⟩=some (.slice ap np cp):=hcj;have hnp:np=nx:=by omega
         subst hnp;have hw1:IntKind.i64.wrap (((j+1:Nat):Int)-1)=(j:Int):=by rw [show ((j+1:Nat):Int)-1=(j:Int) by omega]; exact IntWalk.i64_in _ (by omega)
         have hord:=fun (wx:World) (hq:Ext w4 wx)=>qh (J1 ((hxp.ext (hE0.trans hEw4)).ext hq) (hxs2.ext ((Ext.refl _).trans (HE24.out.trans hq))) (by omega) (fun x hx=>by have:=hb2.2 x hx; omega) (fun x hx=>by have:=hb1.2 x hx; omega));have HB:=qh hb1;have HXP:=qh hxp;obtain ⟨v,HV⟩:∃ v,Hid (Pl.ordE (ts.getD j tm0).2 (ts.getD (j+1) tm0).2=v):=⟨_,qh rfl⟩;rw [HV.out] at hord;clear hcl hcj hSw hb1 hb2 hl1 hl2 hxp hrowp;have hgt:(0:Int)<((j+1:Nat):Int):=by omega
         by_cases hpos:0<v
         · have HOK:Hid (okT vars ts (j+1+1)):=qh ⟨fun i hi=>by
            by_cases h:i=j+1
            · rw [h,HO.out]; rfl
            · exact HK.out.1 i (by omega),fun i hi=>by
            by_cases h:i=j
            · rw [h,HV.out]; exact hpos
            · exact HK.out.2 i (by omega)⟩
           go_quiet (exact Calls.quiet_of (hord _ ((Ext.refl w4).drewN _)).out)
           have hYW:Arr (w4.drewN nq) Y 111 (At [x0,x1,x2,x3,x4,x5] s3 a3 n3 c3 b3 m3 d3):=hY4;have hEwW:=hEw4.drewN nq;have hOW:=hO4.ext ((Ext.refl w4).drewN nq);have HCW:Hid (∀ i,i<j+1→Cm (w4.drewN nq) (rs.getD i []) ((A9 vars (ts.getD i tm0)).getD z6)):=qh fun i hi=>(HC4.out i hi).ext ((Ext.refl w4).drewN nq);have HECW:Hid (Cm (w4.drewN nq) (At [x0,x1,x2,x3,x4,x5] s3 a3 n3 c3 b3 m3 d3) tm):=qh (HEC4.out.ext ((Ext.refl w4).drewN nq));clear hY4 hEw4 hO4 HC4 HEC4 q1 z1 hord hcj';generalize w4.drewN nq=w5 at *
           have hY5:Arr w5 Y 111 (At [x0,x1,x2,x3,x4,x5] s3 a3 n3 c3 b3 m3 d3):=hYW;have hE5:Ext w5 (w5.alloc (.cells (At [x0,x1,x2,x3,x4,x5] s3 a3 n3 c3 b3 m3 d3).toArray 111)):=(Ext.refl w5).alloc _;have hA5:=hOW.ext hE5;have hL5:=GZ (k:=10) (Arr.new w5 111 (At [x0,x1,x2,x3,x4,x5] s3 a3 n3 c3 b3 m3 d3)) rfl;have hl3:(At [x0,x1,x2,x3,x4,x5] s3 a3 n3 c3 b3 m3 d3).toArray=#[.int .i64 x0, .int .i64 x1, .int .i64 x2, .int .i64 x3, .int .i64 x4, .int .i64 x5, .bool s3, .slice a3 n3 c3, .bool false, .slice b3 m3 d3]:=rfl
           have hbs:w0.heap.size≤(w5.alloc (.cells (At [x0,x1,x2,x3,x4,x5] s3 a3 n3 c3 b3 m3 d3).toArray 111)).heap.size:=(hEwW.trans hE5).size;rw [hl3] at hA5 hL5 hbs;have HEW:=qh (hEwW.trans hE5);have HCW5:Hid (∀ i,i<j+1→Cm (w5.alloc (.cells (At [x0,x1,x2,x3,x4,x5] s3 a3 n3 c3 b3 m3 d3).toArray 111)) (rs.getD i []) ((A9 vars (ts.getD i tm0)).getD z6)):=qh fun i hi=>(HCW.out i hi).ext hE5;have HEC5:Hid (Cm (w5.alloc (.cells (At [x0,x1,x2,x3,x4,x5] s3 a3 n3 c3 b3 m3 d3).toArray 111)) (At [x0,x1,x2,x3,x4,x5] s3 a3 n3 c3 b3 m3 d3) tm):=qh (HECW.out.ext hE5)
           have hAg5:Agg prog 111 (At [x0,x1,x2,x3,x4,x5] s3 a3 n3 c3 b3 m3 d3).length:=AA
           go_wp2_with (first
            | (refine A5 rfl rfl hAg5 rfl hY5 ?_; rw [hl3])
            | (refine Mo rfl rfl (by kernel_rfl) C0 rfl hA5 rfl hL5 (by intro r hr u hu; rw [List.mem_singleton.1 hr] at hu; exact Bk u hu) (by intro r hr u hu; rw [List.mem_singleton.1 hr] at hu; exact B2 u hu) (by omega) (by omega) hbs ?_; intro w7 hO7 hg7))
           go_roundw
           case rel =>
            refine ⟨j+1+1,_,rfl,by go_num,by omega,HEW.out.grownR hg7 (lrf _),hO7,HOK,qh fun i hi => ?_⟩;have hrl:=hOW.1.len (by omega);by_cases hik:i=j+1
            · subst hik;rw [HO.out,Option.getD_some,gqq,List.getElem?_append_right (by omega),hrl,Nat.sub_self];exact HEC5.out.keptU hA5.2 hg7
            · rw [gqq,List.getElem?_append_left (by omega),←gqq];exact (HCW5.out i (by omega)).keptU hA5.2 hg7
           case measure=>simp [intOf]; omega
         · have HF:Hid (r=none):=qh (by
            rw [←HR.out];unfold rdWF;rw [if_neg];rintro ⟨_,_,_,h1⟩;have:=h1 j (by omega);rw [HV.out] at this
            exact hpos this)
           go_quiet (exact Calls.quiet_of (hord _ ((Ext.refl w4).drewN _)).out)
           go_wp2
           go_ret2
           rw [HF.out];exact ⟨none,0,0,rfl,(hE0.trans hEw4).drewN _,Cx.nil _⟩
    · have hkn:k=n:=by omega
      subst hkn
      have HF:Hid (r=some (ts.map (fun t=>(A9 vars t).getD z6))):=qh (by
       rw [←HR.out];unfold rdWF
       rw [if_pos ⟨hv0,hv6,by rw [hlen]; exact HK.out⟩])
      go_wp2
      go_ret2
      rw [HF.out];refine ⟨_,_,_,rfl,hE0.trans hE,rs,hO.1.slk (by omega),by simp [hlen],fun i hi => ?_⟩;have h1:=HC.out i hi;have h2:(ts.map (fun t=>(A9 vars t).getD z6)).getD i ([],0)=(A9 vars (ts.getD i tm0)).getD z6:=by simp [hlen,hi]
      rw [Option.getD_some,h2];exact h1
 · have HF:Hid (r=none):=qh (by
    rw [←HR.out];unfold rdWF
    rw [if_neg (fun h=>hv ⟨h.1,h.2.1⟩)])
   go_enter func79,ntmps79
   go_upto_region 1 with (fail)
   refine Bq ?_;intro w0 hE0 hB0 hz0;have u0:=hB0.c 0 rfl;clear hB0 hz0;by_cases hneg:vars<0
   · clear hv;go_wp2
     go_ret2
     rw [HF.out];exact ⟨none,0,0,rfl,hE0,Cx.nil _⟩
   · have hbig:6<vars:=by omega
     clear hv;go_wp2
     go_ret2
     rw [HF.out];exact ⟨none,0,0,rfl,hE0,Cx.nil _⟩
theorem Lp:Hk prog 109 3:=⟨by kernel_rfl,by kernel_rfl,by kernel_rfl⟩
theorem G0:prog.underlying 135=some (.map 109 97):=by kernel_rfl
theorem Sm:Agg prog 109 6:=⟨by kernel_rfl,by kernel_rfl⟩
theorem Id (k:List Int):∀ (m:List (List Int×Value)) (i:Nat),BG k i m=Pl.posK k i m
 | [],_=>rfl
 | (k',v) :: r,i=>by unfold BG Pl.posK; rw [Id k r (i+1)]
theorem QV (z:Value) (m:List (List Int×Value)) (k:List Int):D6 z m k=Pl.getK z m k:=by unfold D6 Pl.getK; rw [Id]
theorem Sn (m:List (List Int×Value)) (k:List Int) (v:Value):Hm m k v=Pl.putK m k v:=by
 unfold Hm Pl.putK;rw [Id];cases Pl.posK k 0 m <;> rfl
theorem AN.noU (h:AN w r m):NoU w r:=by
 intro j i e;simp [World.cell?,h.obj] at e
theorem AG.noU (h:AG w it r n seen):NoU w it:=by
 intro j i e;unfold AG at h;simp [World.cell?,h] at e
theorem DD.keptU {w w':World} {cs:List Value} {q:Rat} {g:Nat} (h:DD w cs q) (hU:NoU w g) (hg:w.grownBy w' (some g)):DD w' cs q:=by
 obtain ⟨s,a,n,c,b,m,d,h3,h4,h5,h6⟩:=h;exact ⟨s,a,n,c,b,m,d,h3,h4,h5.keptU hU hg,h6.keptU hU hg⟩
theorem BB.keptU {w w':World} {v:Value} {q:Rat} {g:Nat} (h:BB w v q) (hU:NoU w g) (hg:w.grownBy w' (some g)):BB w' v q:=by
 obtain ⟨cs,h1,h2⟩:=h;exact ⟨cs,h1,h2.keptU hU hg⟩
def Ep (w:World) (r:Nat) (l:List Pl.Tm):Prop:=∃ m,AN w r m∧Pl.RelL (fun v q=>BB w v q) m l
section
variable {w w':World} {r:Nat} {l:List Pl.Tm}
theorem Ep.ext (h:Ep w r l) (e:Ext w w'):Ep w' r l:=by
 obtain ⟨m,h1,h2⟩:=h;exact ⟨m,h1.ext e,h2.mono fun _ _ h=>h.ext e⟩
theorem Ep.keptU {g:Nat} (h:Ep w r l) (hU:NoU w g) (hg:w.grownBy w' (some g)) (hne:r≠g):Ep w' r l:=by
 obtain ⟨m,h1,h2⟩:=h;exact ⟨m,h1.kept hg (by simpa using hne),h2.mono fun _ _ h=>h.keptU hU hg⟩
theorem Ep.nodup (h:Ep w r l):(l.map (·.1)).Nodup:=by
 obtain ⟨m,h1,h2⟩:=h;rw [←h2.keys]; exact h1.nodup
theorem Ep.six (h:Ep w r l):∀ t∈l,t.1.length=6:=by
 obtain ⟨m,h1,h2⟩:=h;intro t ht;have h3:t.1∈m.map (·.1):=by rw [h2.keys]; exact List.mem_map_of_mem ht
 obtain ⟨p,hp,e⟩:=List.mem_map.1 h3;rw [←e]; exact h1.six p hp
theorem Ep.lt (h:Ep w r l):r<w.heap.size:=by
 obtain ⟨m,h1,_⟩:=h;exact h1.lt
theorem Ep.new (h:AN w r []):Ep w r []:=⟨[],h,trivial⟩
end
def So:Value := .agg #[.bool false, .slice none 0 0, .bool false, .slice none 0 0]
theorem Sp (w:World):BB w So 0:=⟨_,rfl,En w⟩
theorem OP (w:World):(zeroValue 97).run prog w = .ok So w:=Tryz.zeroValue97 w
theorem QW {ρ:Operand→Value} (ho:o.op = .lookup mt x y false) (hm:P.underlying mt=some (.map kt vt)) (hk:Hk P kt et) {z:Value} (hz:∀ w,(zeroValue vt).run P w = .ok z w)
 {r:Nat} {m:List (List Int×Value)} {k:List Int} (hx:ρ x = .map (some r)) (hy:ρ y=BD k) (h:AN w r m) (h6:k.length=6):(execOp ρ o).run P w = .ok (.value (D6 z m k)) w:=by
 unfold execOp;simp only [ho,hx,hy,Sem.run_bind,Gw hm hk (hz w) h h6 false,Result.andThen_ok,Sem.run_pure];rfl
def Fp (w:World) (base:Nat) (a:Option Addr) (n c:Nat) (l:List Pl.Tm):Prop:=∃ rows,A3 w base 111 10 a n c rows∧(∀ g,blk a=some g→NoU w g)∧l.length=n∧∀ i,i<n→Cm w (rows.getD i []) (l.getD i ([],0))
section
variable {w w':World} {base:Nat} {a:Option Addr} {n c:Nat} {l:List Pl.Tm}
theorem Fp.sl (h:Fp w base a n c l):Cx w a n c l:=by
 obtain ⟨rows,h1,h2,h3,h4⟩:=h;exact ⟨rows,h1.slk (by omega),h3,h4⟩
theorem Fp.ext (h:Fp w base a n c l) (e:Ext w w'):Fp w' base a n c l:=by
 obtain ⟨rows,h1,h2,h3,h4⟩:=h;exact ⟨rows,h1.ext e,fun g hg=>(h2 g hg).ext (h1.lt hg).2 e,h3,fun i hi=>(h4 i hi).ext e⟩
theorem Fp.len (h:Fp w base a n c l):l.length=n:=by
 obtain ⟨rows,h1,h2,h3,h4⟩:=h;exact h3
theorem Fp.nil (w:World) (base:Nat):Fp w base none 0 0 []:=⟨[],A3.nil _ _ _ _,(fun g hg=>by simp [blk] at hg),rfl,fun i hi=>absurd hi (by omega)⟩
theorem Fp.mono {base':Nat} (h:Fp w base a n c l) (hb:base'≤base):Fp w base' a n c l:=by
 obtain ⟨rows,h1,h2⟩:=h;exact ⟨rows,h1.mono hb,h2⟩
end
def VT (w:World) (l:List Pl.Tm) (e:Ending) (w':World):Prop:=∃ a n c,e = .returned (.slice a n c)∧Ext w w'∧Fp w' w.heap.size a n c l
def Lq (w:World) (a:Option Addr) (n c:Nat) (ls:List (List Pl.Tm)):Prop:=∃ cs,Sl w a n c cs∧ls.length=n∧∀ i,i<n→∃ a' n' c',cs.getD i undef = .slice a' n' c'∧Cx w a' n' c' (ls.getD i [])
theorem Lq.ext {w w':World} {a:Option Addr} {n c:Nat} {ls:List (List Pl.Tm)} (h:Lq w a n c ls) (e:Ext w w'):Lq w' a n c ls:=by
 obtain ⟨cs,h1,h2,h3⟩:=h;exact ⟨cs,h1.ext e,h2,fun i hi=>let ⟨a',n',c',h4,h5⟩:=h3 i hi; ⟨a',n',c',h4,h5.ext e⟩⟩
theorem Cx.len {l:List Pl.Tm} (h:Cx w a n c l):l.length=n:=by
 obtain ⟨rows,h1,h2,h3⟩:=h;exact h2
theorem QX {r':Nat} (h:AN w r m) (hi:AG w it r' k seen):r≠it:=by
 rintro rfl;unfold AG at hi;rw [h.obj] at hi;cases hi
theorem J2 {N:Nat} (h:A3 w base e k (some ⟨g,0,none⟩) n c rows) (hi:AG w it r N seen):g≠it:=by
 rcases h.2.2 with ⟨hv,_⟩|⟨g',cap,cur,hv,_,hh,_⟩
 · simp at hv
 · simp only [Value.slice.injEq,Option.some.injEq,Addr.mk.injEq,and_true,true_and] at hv;rintro rfl;unfold AG at hi;rw [hv.1] at hi;rw [hh] at hi;cases hi
theorem Fq (h:A3 w base e k (some ⟨g,0,none⟩) n c rows) (hi:AN w r m):g≠r:=by
 rcases h.2.2 with ⟨hv,_⟩|⟨g',cap,cur,hv,_,hh,_⟩
 · simp at hv
 · simp only [Value.slice.injEq,Option.some.injEq,Addr.mk.injEq,and_true,true_and] at hv;rintro rfl;have:=hi.obj;rw [hv.1] at this;rw [hh] at this;cases this
theorem QY {k:TypeId} (ht:P.underlying mt=some (.map k e)) (hb:AN w r m) :
 (Builtin.len_ #[mt] ty #[.map (some r)]).run P w = .ok (.int .i64 m.length) w:=by
 have hl:(B4 0 m).toArray.size=m.length:=by simp [CQ]
 rw [←hl];simp [Builtin.len_,run_underlying ht,run_getObj_map w r _ _ hb.obj,goInt]
def PQ (w:World) (it:Nat):Nat:=match w.heap[it]? with | some (.mapIter _ _ seen _)=>seen.size | _=>0
theorem J3 (h:AG w it r n seen):PQ w it=seen.length:=by
 unfold PQ;unfold AG at h;rw [h];simp
end Go.Proofs.YtlpgonpfjbhmfaaGreatDoor
namespace Go.Proofs.YtlpgonpfjbhmfaaGreatDoor.Pl
variable {k:Nat} {q:Rat}
def plE (a b:List Int):List Int:=List.zipWith (·+·) a b
def prodT (a b:List Tm):List Tm:=a.flatMap (fun s=>b.map (fun t=>(plE s.1 t.1,s.2*t.2)))
def zsc (q:Rat) (k:Nat):Int:=q.num*((k/q.den:Nat):Int)
theorem UH (q:Rat):q*(q.den:Rat)=(q.num:Rat):=by
 have h:q=(q.num:Rat)/(q.den:Rat):=by rw [←Rat.mkRat_eq_div,Rat.mkRat_self]
 have h0:(q.den:Rat)≠0:=by
  intro h;have:=Rat.natCast_eq_zero_iff.1 h;exact q.den_nz this
 conv=>lhs; lhs; rw [h]
 rw [Rat.div_mul_cancel h0]
theorem Sq (h:q.den∣k):((zsc q k:Int):Rat)=q*(k:Rat):=by
 obtain ⟨c,rfl⟩:=h;unfold zsc;rw [Nat.mul_div_cancel_left _ (Nat.pos_of_ne_zero q.den_nz),Rat.intCast_mul,←UH,Rat.natCast_mul];rw [Rat.mul_assoc];rfl
theorem mkRat_div (z:Int) (d:Nat):mkRat z d=(z:Rat)*((d:Rat))⁻¹:=by
 rw [Rat.mkRat_eq_div,Rat.div_def]
theorem coef_mem:∀ {l:List Tm} {t:Tm},(l.map (·.1)).Nodup→t∈l→coef l t.1=t.2
 | [],_,_,h=>by cases h
 | s :: r,t,hn,h=>by
  simp only [List.map_cons,List.nodup_cons] at hn;rcases List.mem_cons.1 h with rfl|h
  · simp only [coef,if_true,Di hn.1]; grind
  · have hne:s.1≠t.1:=fun e=>hn.1 (by rw [e]; exact List.mem_map_of_mem h);simp only [coef,if_neg hne,coef_mem hn.2 h]; grind
end Go.Proofs.YtlpgonpfjbhmfaaGreatDoor.Pl
namespace Go.Proofs.YtlpgonpfjbhmfaaGreatDoor
open Go.Shelf
def QZ:Go.Shelf.Ren:=⟨fun | 6=>81 | 15=>127 | 14=>126 | 28=>164 | 29=>165 | 20=>156 | 21=>157 | 22=>158 | 23=>159 | 24=>160 | 25=>161 | 26=>162 | 27=>163 | 46=>198 | 47=>199 | 48=>200 | 49=>201 | 50=>202 | 57=>223 | n=>n,fun | 22=>61 | 24=>111 | 25=>132 | 3=>3 | 39=>147 | 0=>0 | 53=>208 | 55=>143 | 4=>4 | 46=>201 | 45=>200 | 50=>205 | 5=>5 | 9=>9 | 66=>229 | 70=>233 | 76=>252 | 77=>253 | n=>n,fun | n=>n⟩
theorem UI:Go.Proofs.SlLaysF0.n6 Tryz.prog QZ:={
 mixed:=by kernel_rfl
 f6:=⟨Tryz.f81.name,by decide,Tryz.func81.trans (congrArg some (by kernel_rfl))⟩
 f14:=⟨Tryz.f126.name,by decide,Tryz.func126.trans (congrArg some (by kernel_rfl))⟩
 f15:=Tryz.func127.trans (congrArg some (by kernel_rfl))
 f20:=⟨Tryz.f156.name,by decide,Tryz.func156.trans (congrArg some (by kernel_rfl))⟩
 f21:=⟨Tryz.f157.name,by decide,Tryz.func157.trans (congrArg some (by kernel_rfl))⟩
 f22:=⟨Tryz.f158.name,by decide,Tryz.func158.trans (congrArg some (by kernel_rfl))⟩
 f23:=⟨Tryz.f159.name,by decide,Tryz.func159.trans (congrArg some (by kernel_rfl))⟩
 f24:=⟨Tryz.f160.name,by decide,Tryz.func160.trans (congrArg some (by kernel_rfl))⟩
 f25:=⟨Tryz.f161.name,by decide,Tryz.func161.trans (congrArg some (by kernel_rfl))⟩
 f26:=⟨Tryz.f162.name,by decide,Tryz.func162.trans (congrArg some (by kernel_rfl))⟩
 f27:=⟨Tryz.f163.name,by decide,Tryz.func163.trans (congrArg some (by kernel_rfl))⟩
 f28:=Tryz.func164.trans (congrArg some (by kernel_rfl))
 f29:=Tryz.func165.trans (congrArg some (by kernel_rfl))
 f46:=⟨Tryz.f198.name,by decide,Tryz.func198.trans (congrArg some (by kernel_rfl))⟩
 f47:=Tryz.func199.trans (congrArg some (by kernel_rfl))
 f48:=Tryz.func200.trans (congrArg some (by kernel_rfl))
 f49:=⟨Tryz.f201.name,by decide,Tryz.func201.trans (congrArg some (by kernel_rfl))⟩
 f50:=⟨Tryz.f202.name,by decide,Tryz.func202.trans (congrArg some (by kernel_rfl))⟩
 f57:=⟨Tryz.f223.name,by decide,Tryz.func223.trans (congrArg some (by kernel_rfl))⟩
 t0:=Tryz.underlying0
 a0:=Tryz.isAgg0
 z0:=Tryz.sizeOf0
 v0:=Tryz.zeroValue0
 t3:=Tryz.underlying3
 a3:=Tryz.isAgg3
 z3:=Tryz.sizeOf3
 v3:=Tryz.zeroValue3
 t4:=Tryz.underlying4
 a4:=Tryz.isAgg4
 z4:=Tryz.sizeOf4
 v4:=Tryz.zeroValue4
 t5:=Tryz.underlying5
 a5:=Tryz.isAgg5
 z5:=Tryz.sizeOf5
 v5:=Tryz.zeroValue5
 t9:=Tryz.underlying9
 a9:=Tryz.isAgg9
 z9:=Tryz.sizeOf9
 v9:=Tryz.zeroValue9
 t22:=Tryz.underlying61
 a22:=Tryz.isAgg61
 z22:=Tryz.sizeOf61
 v22:=Tryz.zeroValue61
 t25:=Tryz.underlying132
 a25:=Tryz.isAgg132
 z25:=Tryz.sizeOf132
 v25:=Tryz.zeroValue132
 t39:=Tryz.underlying147
 a39:=Tryz.isAgg147
 z39:=Tryz.sizeOf147
 v39:=Tryz.zeroValue147
 t45:=Tryz.underlying200
 a45:=Tryz.isAgg200
 z45:=Tryz.sizeOf200
 v45:=Tryz.zeroValue200
 t46:=Tryz.underlying201
 a46:=Tryz.isAgg201
 z46:=Tryz.sizeOf201
 v46:=Tryz.zeroValue201
 t50:=Tryz.underlying205
 a50:=Tryz.isAgg205
 z50:=Tryz.sizeOf205
 v50:=Tryz.zeroValue205
 t53:=Tryz.underlying208
 a53:=Tryz.isAgg208
 z53:=Tryz.sizeOf208
 v53:=Tryz.zeroValue208
 t55:=Tryz.underlying143
 a55:=Tryz.isAgg143
 z55:=Tryz.sizeOf143
 v55:=Tryz.zeroValue143
 t66:=Tryz.underlying229
 a66:=Tryz.isAgg229
 z66:=Tryz.sizeOf229
 v66:=Tryz.zeroValue229
 t70:=Tryz.underlying233
 a70:=Tryz.isAgg233
 z70:=Tryz.sizeOf233
 v70:=Tryz.zeroValue233
 t76:=Tryz.underlying252
 a76:=Tryz.isAgg252
 z76:=Tryz.sizeOf252
 v76:=Tryz.zeroValue252
 t77:=Tryz.underlying253
 a77:=Tryz.isAgg253
 z77:=Tryz.sizeOf253
 v77:=Tryz.zeroValue253 }
end Go.Proofs.YtlpgonpfjbhmfaaGreatDoor
