/- Part Rin36. -/
import Derived.Test.YtbiifaciddajnaaGreatDoorRin24
import Derived.Test.YtbiifaciddajnaaGreatDoorRin34
import Derived.Test.YtbiifaciddajnaaGreatDoorRin35
import Derived.Test.YtbiifaciddajnaaGreatDoorRin22
import Derived.Test.YtbiifaciddajnaaGreatDoorRin31
set_option maxRecDepth 100000
set_option maxHeartbeats 100000000
namespace Go.Proofs.YtbiifaciddajnaaGreatDoor
open Go Go.RowKit
theorem SlK.flatCells {w:World} {k m cx:Nat} {ad:Addr} {news:List (List Value)} (hsl:SlK w k (some ad) m cx news) (hk:0<k):∀ j u,news.flatten[j]?=some u→w.cell? (ad.add j)=some u:=by
 intro j u hu
 have hj:j<news.flatten.length:=by
  rcases Nat.lt_or_ge j news.flatten.length with h|h
  · exact h
  · simp [List.getElem?_eq_none h] at hu
 rw [flat_len news hsl.wid,hsl.len] at hj
 have hm0:0<m:=by rcases Nat.eq_zero_or_pos m with h | h; (rw [h,Nat.zero_mul] at hj; omega); exact h
 obtain ⟨b,o,h,hc⟩:=hsl.rd hm0
 injection h with h
 subst h
 have hjd:j/k<m:=(Nat.div_lt_iff_lt_mul hk).2 hj
 have hjm:j%k<k:=Nat.mod_lt _ hk
 have hje:j=j/k*k+j%k:=by rw [Nat.mul_comm]; exact (Nat.div_add_mod j k).symm
 have h2:=hc (j/k) hjd (j%k) hjm
 have h3:=flat_get news hsl.wid (j/k) (j%k) hjm
 rw [←hje,hu] at h3
 have hl:j/k<news.length:=by rw [hsl.len]; exact hjd
 rw [List.getElem?_eq_getElem hl,Option.bind_some] at h3
 have h4:(news.getD (j/k) []).getD (j%k) undef=u:=by
  rw [List.getD_eq_getElem?_getD (l:=news),List.getElem?_eq_getElem hl,Option.getD_some,List.getD_eq_getElem?_getD,←h3]
  rfl
 rw [h4,Nat.add_assoc,←hje] at h2
 rw [←h2]
 unfold Addr.add
 by_cases h0:j=0 <;> simp [h0]
section
variable {P:Program} {w:World}
theorem zeroCells_mem {zs:List Value} {n:Nat} {v:Value} (hz:0<zs.length) (h:v∈(Builtin.zeroCells zs.toArray n).toList):v∈zs:=by
 unfold Builtin.zeroCells at h
 simp only [Array.toList_map,List.mem_map] at h
 obtain ⟨i,_,rfl⟩:=h
 have hm:i%zs.toArray.size<zs.length:=by simpa using Nat.mod_lt i (by simpa using hz)
 rw [getElem!_pos zs.toArray (i%zs.toArray.size) (by simpa using hm)]
 simp
theorem noU_of {g:Nat} {cs:Array Value} {t:TypeId} {fr:Nat×Nat} {w':World} (hh:w'.heap[g]?=some (.cells cs t fr)) (h:∀ v∈cs.toList,∀ i,v ≠ .int .u64 i):NoU w' g:=by
 intro j i he
 rw [cell_of_row w' g _ cs t fr hh] at he
 exact h _ (by rw [Array.mem_toList_iff]; exact Array.mem_of_getElem? he) i rfl
theorem run_appKU {t ty e:TypeId} {zs:List Value} {k bytes base:Nat} {a:Option Addr} {n c:Nat} {rows:List (List Value)} {ad:Addr} {m cx:Nat} {news:List (List Value)}
 (ht:P.underlying t=some (.slice e)) (hinfo:ElemK P e zs k bytes) (hzu:∀ v∈zs,∀ i,v ≠ .int .u64 i) (hown:OwnK w base e k a n c rows) (hU:∀ g,blk a=some g→NoU w g) (hnr:nuR rows) (hsl:SlK w k (some ad) m cx news)
 (h1:∀ r∈news,∀ u∈r,u.oneCell'=true) (hnu:nuR news) (h0:0<m) (h63:n+m≤maxLen) (hbytes:(n+m)*bytes≤140737488355328) (hbase:base≤w.heap.size) :
 ∃ a' c' w',(Builtin.append_ #[t,t] ty #[.slice a n c, .slice (some ad) m cx]).run P w = .ok (.slice a' (n+m) c') w'∧OwnK w' base e k a' (n+m) c' (rows ++ news)∧(∀ g,blk a'=some g→NoU w' g) ∧
  w.grownBy w' (blk a)∧(blk a'=blk a∨blk a'=some w.heap.size):=by
 obtain ⟨i,hi,hz,hsize,hby⟩:=hinfo.parts
 have hk:=hinfo.2.2
 have hcells:=hsl.flatCells hk
 have hfl:=flat_len news hsl.wid
 rw [hsl.len] at hfl
 have hmax:((n+m:Nat):Int)≤9223372036854775807:=by unfold maxLen at h63; omega
 rcases hown.2.2 with ⟨hv,he⟩|⟨g,cap,cur,hv,hb,hh,hnc,hm,hs,htk⟩
 · simp only [Value.slice.injEq] at hv
   obtain ⟨rfl,rfl,rfl⟩:=hv
   obtain ⟨a',c',w',hrun,h2,h3,h4⟩:=run_appK (P:=P) (ty:=ty) ht hinfo hown hsl h1 h63 hbytes hbase
   have hr2:=run_append_nil (P:=P) w t ty e i (.agg zs.toArray) ht hi hz ad m cx news.flatten (by rw [hfl,hsize]) hcells h0 (by omega) (by rw [hby]; rw [Nat.zero_add] at hbytes; omega)
   refine ⟨a',c',w',hrun,h2,fun g hg => ?_,h3,h4⟩
   rw [hrun] at hr2
   simp only [Result.ok.injEq,Value.slice.injEq] at hr2
   obtain ⟨⟨rfl,_,_⟩,rfl⟩:=hr2
   have hg':w.heap.size=g:=by simpa [blk] using hg
   subst hg'
   refine noU_of (heap_alloc_new w.drew _) fun v hv q he => ?_
   subst he
   simp only [Array.toList_append,List.mem_append] at hv
   rcases hv with hv|hv
   · obtain ⟨r,hr,hu⟩:=List.mem_flatten.1 (by simpa using hv)
     exact hnu r hr _ hu q rfl
   · exact hzu _ (zeroCells_mem (zs:=zs) (by rw [hinfo.2.1]; exact hk) hv) q rfl
 · simp only [Value.slice.injEq] at hv
   obtain ⟨rfl,_,rfl⟩:=hv
   by_cases hroom:n+m≤c
   · obtain ⟨w',hrun,⟨h2,h3⟩,h4⟩:=run_appU (P:=P) (ty:=ty) ht hinfo ⟨hown,hU g rfl⟩ hsl h1 hnu hroom hbytes hbase
     refine ⟨_,c,w',hrun,h2,fun g' hg => ?_,h4,Or.inl rfl⟩
     have:g=g':=by simpa [blk] using hg
     subst this
     exact h3
   · obtain ⟨a',c',w',hrun,h2,h3,h4⟩:=run_appK (P:=P) (ty:=ty) ht hinfo hown hsl h1 h63 hbytes hbase
     have hlo:rows.flatten.length=n*k:=by
      have:=flat_len rows hown.1
      have h5:=congrArg List.length htk
      rw [List.length_take] at h5
      have h6:n*k≤cur.size:=by rw [hs]; exact Nat.mul_le_mul_right _ hnc
      have:cur.toList.length=cur.size:=by simp
      omega
     have hr2:=run_append_grow (P:=P) w t ty e i (.agg zs.toArray) ht hi hz ⟨g,0,none⟩ n c rows.flatten (by rw [hlo,hsize]) (fun j v hj=>by
      have h7:(⟨g,0,none⟩:Addr).add j=⟨g,j,none⟩:=by unfold Addr.add; split <;> simp_all
      rw [h7,cell_of_row w g j cur e (0,0) hh]
      rw [←htk,List.getElem?_take] at hj
      split at hj
      · simpa using hj
      · cases hj) ad m cx news.flatten (by rw [hfl,hsize]) hcells (by omega) hmax (by
        have h8:=nextslicecap_le (need:=n+m) (old:=c) (by omega)
        have h9:=Nat.mul_le_mul_right bytes h8
        rw [Nat.mul_assoc] at h9
        rw [hby]
        omega)
     refine ⟨a',c',w',hrun,h2,fun g' hg => ?_,h3,h4⟩
     rw [hrun] at hr2
     simp only [Result.ok.injEq,Value.slice.injEq] at hr2
     obtain ⟨⟨rfl,_,_⟩,rfl⟩:=hr2
     have hg':w.heap.size=g':=by simpa [blk] using hg
     subst hg'
     refine noU_of (heap_alloc_new w.drew _) fun v hv q he => ?_
     subst he
     simp only [Array.toList_append,List.mem_append] at hv
     rcases hv with (hv|hv) | hv
     · obtain ⟨r,hr,hu⟩:=List.mem_flatten.1 (by simpa using hv)
       exact hnr r hr _ hu q rfl
     · obtain ⟨r,hr,hu⟩:=List.mem_flatten.1 (by simpa using hv)
       exact hnu r hr _ hu q rfl
     · exact hzu _ (zeroCells_mem (zs:=zs) (by rw [hinfo.2.1]; exact hk) hv) q rfl
end
end Go.Proofs.YtbiifaciddajnaaGreatDoor
namespace Go.Proofs.YtbiifaciddajnaaGreatDoor
open Go Go.RowKit
noncomputable def derA (va i:Int) (o:Option (List Pl.Tm)):Int×List Tx×Int :=
 match o with
 | some l=>if 0≤i∧i<va then resQ va (Pl.derT i.toNat l) else (0,[],3)
 | none=>(0,[],1)
theorem int_P2 {x:Int} (h:x.natAbs<16777216):(x:Rat).num.natAbs<P2 2400:=by
 have e:P2 24=16777216:=by unfold P2; decide
 exact P2_lt (a:=24) (by show x.natAbs<_; omega) (by omega)
theorem int_P2d (x:Int):(x:Rat).den<P2 2400:=by
 have e:P2 1=2:=rfl
 exact P2_lt (a:=1) (by show (1:Nat)<_; omega) (by omega)
theorem decE_len (i:Nat) (m:List Int):(Pl.decE i m).length=m.length:=by simp [Pl.decE]
theorem decE_inj {i:Nat} {a b:List Int} (hl:a.length=b.length) (h:Pl.decE i a=Pl.decE i b):a=b:=by
 by_cases hi:i<a.length
 · have h1:(Pl.decE i a).getD i 0=(Pl.decE i b).getD i 0:=by rw [h]
   have hb:i<b.length:=by omega
   unfold Pl.decE at h h1
   have h2:a.getD i 0=b.getD i 0:=by
    simp [List.getD_eq_getElem?_getD,hi,hb] at h1 ⊢
    omega
   refine List.ext_getElem hl fun j h3 h4 => ?_
   by_cases hij:i=j
   · subst hij
     simpa [List.getD_eq_getElem?_getD,h3,h4] using h2
   · have:=congrArg (fun l:List Int=>l[j]?) h
     simp only [List.getElem?_set_ne hij] at this
     simpa [h3,h4] using this
 · unfold Pl.decE at h
   rwa [List.set_eq_of_length_le (by omega),List.set_eq_of_length_le (by omega)] at h
theorem derT_mem {i:Nat} {l:List Pl.Tm} {u:Pl.Tm} (h:u∈Pl.derT i l):∃ t∈l,0<t.1.getD i 0∧u=(Pl.decE i t.1,t.2*((t.1.getD i 0:Int):Rat)):=by
 obtain ⟨t,ht,rfl⟩:=List.mem_map.1 h
 obtain ⟨h1,h2⟩:=List.mem_filter.1 ht
 exact ⟨t,h1,by simpa using h2,rfl⟩
theorem derT_len (i:Nat) (l:List Pl.Tm):(Pl.derT i l).length≤l.length:=by
 unfold Pl.derT
 rw [List.length_map]
 exact List.length_filter_le _ _
theorem der_nrm {i:Nat} {l:List Pl.Tm} (h:Pl.Nrm l):Pl.Nrm (Pl.derT i l) where
 len:=fun u hu=>by
  obtain ⟨t,ht,_,rfl⟩:=derT_mem hu
  rw [decE_len]; exact h.len t ht
 nz:=fun u hu=>by
  obtain ⟨t,ht,hp,rfl⟩:=derT_mem hu
  intro h0
  rcases Rat.mul_eq_zero.1 h0 with h1|h1
  · exact h.nz t ht h1
  · have:=Rat.intCast_eq_zero_iff.1 h1
    omega
 nodup:=by
  have key:∀ l:List Pl.Tm,(∀ t∈l,t.1.length=6)→(l.map (·.1)).Nodup→((Pl.derT i l).map (·.1)).Nodup:=by
   intro l
   induction l with
   | nil=>intro _ _; exact List.nodup_nil
   | cons t r ih =>
    intro h6 hn
    have hn':=List.nodup_cons.1 hn
    have ihr:=ih (fun s hs=>h6 s (by simp [hs])) hn'.2
    rw [Pl.derT_cons]
    by_cases hp:0<t.1.getD i 0
    · rw [if_pos hp,List.singleton_append,List.map_cons]
      refine List.nodup_cons.2 ⟨fun hm => ?_,ihr⟩
      obtain ⟨u,hu,e⟩:=List.mem_map.1 hm
      obtain ⟨s,hs,_,rfl⟩:=derT_mem hu
      have hst:s.1=t.1:=decE_inj (by rw [h6 s (by simp [hs]),h6 t (by simp)]) e
      exact hn'.1 (by show t.1∈_; rw [←hst]; exact List.mem_map_of_mem hs)
    · rw [if_neg hp]
      exact ihr
  exact key l h.len h.nodup
section
variable {w:World} {X:Nat} {te:List Int} {s:Bool} {a b:Option Addr} {n c m d:Nat}
theorem entL_c (h:Arr w X 95 (entL te s a n c b m d)) (h6:te.length=6):w.cell? ⟨X,6,none⟩=some (.bool s)∧w.cell? ⟨X,7,none⟩=some (.slice a n c)∧w.cell? ⟨X,8,none⟩=some (.bool false)∧w.cell? ⟨X,9,none⟩=some (.slice b m d):=by
 obtain ⟨x0,x1,x2,x3,x4,x5,rfl⟩:=six_of h6
 exact ⟨h.cell (i:=6) (by simp [entL,ratL,intL]),h.cell (i:=7) (by simp [entL,ratL,intL]),h.cell (i:=8) (by simp [entL,ratL,intL]),h.cell (i:=9) (by simp [entL,ratL,intL])⟩
theorem entL_x (h:Arr w X 95 (entL te s a n c b m d)) {i:Nat} (hi:i<te.length):w.cell? ⟨X,i,none⟩=some (.int .i64 (te.getD i 0)):=by
 have h1:=h.cell (i:=i) (by rw [entL_len]; omega)
 rw [h1]
 unfold entL
 simp [List.getD_eq_getElem?_getD,List.getElem?_append_left,hi]
theorem entL_set (te:List Int) (i:Nat) (hi:i<te.length) (v:Int):(entL te s a n c b m d).take i ++ [Value.int .i64 v] ++ (entL te s a n c b m d).drop (i+[Value.int .i64 v].length)=entL (te.set i v) s a n c b m d:=by
 unfold entL
 rw [List.take_append_of_le_length (by simp; omega),List.drop_append_of_le_length (by simp; omega),List.map_set,List.set_eq_take_append_cons_drop]
 simp [hi]
theorem entL_rat {s':Bool} {a' b':Option Addr} {n' c' m' d':Nat} (h6:te.length=6):(entL te s a n c b m d).take 6 ++ ratL s' a' n' c' false b' m' d' ++ (entL te s a n c b m d).drop (6+(ratL s' a' n' c' false b' m' d').length)=entL te s' a' n' c' b' m' d':=by
 obtain ⟨x0,x1,x2,x3,x4,x5,rfl⟩:=six_of h6
 rfl
end
theorem EntO.keptX {w w':World} {base X:Nat} {a:Option Addr} {n c:Nat} {l:List Pl.Tm} {t:TypeId} {cs:List Value} (h:EntO w base a n c l) (hB:Arr w X t cs) (hnu:∀ v∈cs,∀ i,v ≠ .int .u64 i) (hne:∀ g,blk a=some g→g≠X) (hg:w.grownBy w' (some X)):EntO w' base a n c l:=by
 obtain ⟨rows,h1,h2,h3,h4⟩:=h
 refine ⟨rows,h1.kept hg (Or.inr fun e=>hne X e rfl),fun g hg'=>(h2 g hg').kept (h1.lt hg').2 hg (fun e=>hne g hg' (by injection e)),h3,fun i hi=>(h4 i hi).keptU (hB.noU hnu) hg⟩
theorem keptN {w w':World} {cs:List Value} {q:Rat} {a:Option Addr} (h:RatC w cs q) (hU:∀ g,blk a=some g→NoU w g) (hg:w.grownBy w' (blk a)):RatC w' cs q:=by
 cases hb:blk a with
 | none=>rw [hb] at hg; exact h.ext ((Ext.refl w).grown hg (fun k hk=>by cases hk))
 | some g=>rw [hb] at hg; exact h.keptU (hU g hb) hg
theorem wl_appEnt {ops:Array Oper} {rest:List Oper} {o:Oper} {f:Act} {Q:Exit→Act→World→Prop} {s x:Operand} {w:World} {base g:Nat} {a a1 b1:Option Addr} {n c n1 c1 m1 d1:Nat} {s1:Bool} {l:List Pl.Tm} {e:List Int} {q:Rat} (hgd:o.guard=none)
 (ho:o.op = .call { callee := .builtin .append,args:=#[s,x],argTypes:=#[76,76] }) (hs:f.eval s = .slice a n c) (hx:f.eval x = .slice (some ⟨g,0,none⟩) 1 1) (hO:EntO w base a n c l)
 (hL:Arr w g 95 (entL e s1 a1 n1 c1 b1 m1 d1)) (h6:e.length=6) (hr:RatC w (ratL s1 a1 n1 c1 false b1 m1 d1) q) (hn:n≤100000) (hb:base≤w.heap.size)
 (hK:∀ a' c' w',EntO w' base a' (n+1) c' (l ++ [(e,q)])→w.grownBy w' (blk a)→wpList Tryz.prog ops Q rest (f.put o.dst (.slice a' (n+1) c')) w'):wpList Tryz.prog ops Q (o :: rest) f w:=by
 obtain ⟨rows,h1,h2,h3,h4⟩:=hO
 have hsl:SlK w 10 (some ⟨g,0,none⟩) 1 1 [entL e s1 a1 n1 c1 b1 m1 d1]:=(Arr.ownK (base:=0) (n:=1) (rows:=[entL e s1 a1 n1 c1 b1 m1 d1]) (by simpa using hL) (by intro r hr; rw [List.mem_singleton.1 hr,entL_len,h6]) rfl (Nat.zero_le _) (by unfold maxLen; omega)).slk (by omega)
 have hlr:rows.length=n:=h1.len (by omega)
 have hnr:nuR rows:=by
  intro r hr v hv
  obtain ⟨i,hi,rfl⟩:=List.mem_iff_getElem.1 hr
  obtain ⟨s',a',n',c',b',m',d',e',_,_⟩:=h4 i (by omega)
  have e2:rows.getD i []=rows[i]:=by simp [List.getD_eq_getElem?_getD,hi]
  rw [←e2,e'] at hv
  exact entL_nu v hv
 have hnn:nuR [entL e s1 a1 n1 c1 b1 m1 d1]:=by intro r hr; rw [List.mem_singleton.1 hr]; exact entL_nu
 refine wpList_plain hgd fun _ hK' => ?_
 obtain ⟨a',c',w',hrun,g2,g3,g4,_⟩:=run_appKU (P:=Tryz.prog) (ty:=o.type) Tryz.underlying76 elem_entry entL_nu h1 h2 hnr hsl (by intro r hr; rw [List.mem_singleton.1 hr]; exact entL_one) hnn (by omega) (by unfold maxLen; omega) (by omega) hb
 unfold Oper.wp execOp
 simp only [ho,resolve,invoke,builtin,Sem.run_bind,Sem.run_pure,Result.andThen_ok,List.map_toArray,List.map_cons,List.map_nil,hs,hx,hrun]
 refine hK' _ _ (hK a' c' w' ⟨rows ++ [entL e s1 a1 n1 c1 b1 m1 d1],g2,g3,by simp [h3],fun i hi => ?_⟩ g4)
 by_cases hin:i<n
 · obtain ⟨s',a2,n2,c2,b2,m2,d2,e',e6,er⟩:=h4 i hin
   refine ⟨s',a2,n2,c2,b2,m2,d2, ?_, ?_, ?_⟩
   · rw [←show (l.getD i ([],0))=(l ++ [(e,q)]).getD i ([],0) by simp [List.getD_eq_getElem?_getD,List.getElem?_append_left,h3,hin],←e']
     simp [List.getD_eq_getElem?_getD,List.getElem?_append_left,hlr,hin]
   · rw [←show (l.getD i ([],0))=(l ++ [(e,q)]).getD i ([],0) by simp [List.getD_eq_getElem?_getD,List.getElem?_append_left,h3,hin]]; exact e6
   · rw [←show (l.getD i ([],0))=(l ++ [(e,q)]).getD i ([],0) by simp [List.getD_eq_getElem?_getD,List.getElem?_append_left,h3,hin]]
     exact keptN er h2 g4
 · have:i=n:=by omega
   subst this
   refine ⟨s1,a1,n1,c1,b1,m1,d1, ?_, ?_, ?_⟩
   · simp [List.getD_eq_getElem?_getD,←h3,hlr]
   · simp [List.getD_eq_getElem?_getD,←h3,h6]
   · have:(l ++ [(e,q)]).getD i ([],0)=(e,q):=by simp [List.getD_eq_getElem?_getD,←h3]
     rw [this]
     exact keptN hr h2 g4
theorem poly_Derive {va i:Int} {a:Option Addr} {n c:Nat} {ts:List Tx} {w:World} (hT:Tabs w) (ha:TmSl w a n c ts) (sa:∀ t∈ts,t.1.length≤570)
 (hok:∀ l,rdP va ts=some l→0≤i→i<va→FitsP (Pl.derT i.toNat l)) :
 Calls Tryz.prog 29 #[.agg #[.int .i64 va, .slice a n c], .int .i64 i] w (RetA3 w (derA va i (rdP va ts))):=by
 have hrp:=fun (wx:World) (hC:Ext w wx)=>qh (poly_read (vars:=va) (hT.ext hC) (ha.ext hC) sa)
 have HB:Hid (∀ l,rdP va ts=some l→(∀ t∈l,Pl.RB 2280 t.2)∧Pl.Nrm l∧l.length≤4096∧(0≤va∧va≤6)∧∀ t∈l,t.1.length=6∧∀ x∈t.1,0≤x∧x≤1048576):=qh (fun l h2=>by
  refine ⟨fun t ht=>(rdP_RB h2 sa t ht).mono (by omega),canon_nrm (rdP_canon h2), ?_,(rdP_parts h2).1,rdP_exps h2⟩
  rw [rdP_len h2]; exact (rdP_parts h2).2.1)
 have HOK:=qh hok
 obtain ⟨ol,hol⟩:∃ o,rdP va ts=o:=⟨_,rfl⟩
 rw [hol] at hrp HB HOK ⊢
 clear hol sa ha hok
 go_enter Tryz.func29,Tryz.ntmps29
 go_upto_region 1 with (fail)
 refine box2 ?_
 intro w0 hE0 hB0 hB1 hz0
 have p00:=hB0.c 0 rfl
 have p01:=hB0.c 1 rfl
 have hR:Arr w0 (w.heap.size+1) 24 (polyL 0 none 0 0):=hB1
 have hpz:(polyL 0 none 0 0).toArray=#[.int .i64 0, .slice none 0 0]:=rfl
 clear hB0 hB1 hz0
 have hsz:=hE0.size
 go_wp2_with fail
 refine (hrp _ hE0).out.mono ?_
 rintro e w3 ⟨a3,n3,c3,rfl,hE3,hL3⟩
 have hEw:=hE0.trans hE3
 have hR3:=hR.ext hE3
 have p00:=hE3.cell p00
 clear p01 hR hrp hE0 hE3
 cases ol with
 | none =>
  simp only [Option.isSome_none]
  go_wp2_with (refine wl_stArr (vs:=polyL 0 none 0 0) rfl rfl rfl rfl rfl agg_Poly hR3 rfl (polyL_one _ _ _ _) ?_; intro w9 hB9 hg9)
  refine bodyPost_ret (res_ct rfl agg_Poly rfl rfl hB9) rfl ?_
  exact ⟨none,0,0,rfl,hEw.grownR hg9 (by omega),TmO.nil _ _⟩
 | some l =>
  simp only [Option.isSome_some,Option.getD_some] at hL3 ⊢
  have HBB:=qh (HB.out l rfl)
  have hva:=HBB.out.2.2.2.1
  by_cases hi:0≤i∧i<va
  · obtain ⟨vn,rfl⟩:∃ j:Nat,va=(j:Int):=⟨va.toNat,by omega⟩
    obtain ⟨ii,rfl⟩:∃ j:Nat,i=(j:Int):=⟨i.toNat,by omega⟩
    have hii:ii<6:=by omega
    have hi6:(ii:Int)<6:=by omega
    have hiv:¬ ((vn:Int)≤(ii:Int)):=by omega
    have hin:¬ ((ii:Int)<0):=by omega
    have HFT:=qh (HOK.out l rfl hi.1 hi.2)
    have HDA:Hid (derA (vn:Int) (ii:Int) (some l)=resQ (vn:Int) (Pl.derT ii l)):=qh (by unfold derA; simp only; rw [if_pos hi,Int.toNat_natCast])
    rw [Int.toNat_natCast] at HFT
    have hll:=hL3.len
    have hn4:n3≤4096:=by have:=HBB.out.2.2.1; omega
    obtain ⟨rows,hS,hlen,hRW⟩:=hL3
    have HR:=qh hRW
    have HLN:=qh hlen
    clear hRW hlen hll HB HOK hi hva
    have hO0:EntO w3 w3.heap.size none 0 0 (Pl.derT ii (l.take 0)):=EntO.nil _ _
    go_wp2
    go_loopw [8,30] (fun rv iv wr=>∃ (k:Nat) (a':Option Addr) (n' c':Nat),rv = .slice a' n' c'∧iv = .int .i64 k∧k≤n3∧n'≤k∧Ext w3 wr∧EntO wr w3.heap.size a' n' c' (Pl.derT ii (l.take k))) (fun _ iv _=>n3-(intOf iv).toNat)
    case atStart=>exact ⟨0,none,0,0,rfl,rfl,Nat.zero_le _,Nat.le_refl _,Ext.refl _,hO0⟩
    case round =>
     clear hO0
     obtain ⟨k,a',n',c',rfl,rfl,hk,hnk,hE,hO⟩:=hrel
     by_cases hlt:k<n3
     · have hSw:=hS.ext hE
       obtain ⟨bb,off,rfl,_⟩:=hSw.rd (by omega)
       obtain ⟨sx,ax,nx,cx,bx,mx,dx,hrow,h6,hrc⟩:=HR.out k hlt
       have hmem:l.getD k ([],0)∈l:=by simp [List.getD_eq_getElem?_getD,HLN.out,hlt]
       have HTB:=qh (HBB.out.1 _ hmem)
       have hex:=HBB.out.2.2.2.2 _ hmem
       have HTK:Hid (l.take (k+1)=l.take k ++ [l.getD k ([],0)]):=qh (by rw [List.take_succ_eq_append_getElem (by rw [HLN.out]; exact hlt)]; simp [List.getD_eq_getElem?_getD,HLN.out,hlt])
       clear hmem
       generalize l.getD k ([],0)=t at *
       obtain ⟨te,tq⟩:=t
       simp only at h6 hrow hrc HTB hex HTK
       have hx0:te.getD ii 0∈te:=by simp [List.getD_eq_getElem?_getD,h6,hii]
       have hxb:=hex.2 _ hx0
       have hx1:=hxb.1
       have hx2:=hxb.2
       have HDS:=qh (Pl.derT_snoc ii (l.take k) (te,tq))
       have hLE:(entL [0,0,0,0,0,0] false none 0 0 none 0 0).length=(entL te sx ax nx cx bx mx dx).length:=by rw [entL_len te,h6]; rfl
       have hAG:Agg Tryz.prog 95 (entL te sx ax nx cx bx mx dx).length:=by rw [entL_len te,h6]; exact agg_entry
       have hY:=Arr.new wr 95 (entL [0,0,0,0,0,0] false none 0 0 none 0 0)
       go_upto_region 10 with (first
        | (refine wl_ldK rfl rfl agg_entry rfl hSw hlt ?_; rw [hrow])
        | (refine wl_stArr (vs:=entL te sx ax nx cx bx mx dx) rfl rfl rfl rfl rfl hAG hY hLE entL_one ?_; intro w4 hB4 hg4))
       have hE4:Ext wr w4:=((Ext.refl wr).alloc _).grownR hg4 (Nat.le_refl _)
       have hO4:=hO.ext hE4
       have hE1w:=hE.trans hE4
       have hrc4:=hrc.ext hE1w
       have hlX:=hB4.lt
       have hsX:wr.heap.size≤wr.heap.size:=Nat.le_refl _
       have hneX:∀ g,blk a'=some g→g≠wr.heap.size:=fun g hg=>by
        obtain ⟨rr,h1,_⟩:=hO
        have:=(h1.lt hg).2
        omega
       have hX3:=hE.size
       have cxi:=entL_x hB4 (i:=ii) (by omega)
       obtain ⟨c6,c7,c8,c9⟩:=entL_c hB4 h6
       clear hY hg4 hO hE hE4 hrow hSw hrc hex hx0 hxb hsX
       obtain ⟨x,hx⟩:∃ x,te.getD ii 0=x:=⟨_,rfl⟩
       rw [hx] at cxi hx1 hx2
       simp only [hx] at HDS
       have HX:=qh hx
       clear hx
       generalize wr.heap.size=X at *
       by_cases hpos:0<x
       · have hd1:decide ((0:Int)<x)=true:=decide_eq_true hpos
         have hsm:=fun (wx:World) (hq:Ext w4 wx)=>qh (rat_Small (z:=x) (w:=wx) (by omega) (by omega))
         have hmul:=fun (wx:World) (hq:Ext w4 wx) (v:Value) (hv:RatR wx v (x:Rat))=>qh (rat_Mul (((hT.ext hEw).ext hE1w).ext hq) (v := .agg #[.bool sx, .slice ax nx cx, .bool false, .slice bx mx dx]) (p:=tq) ⟨ratL sx ax nx cx false bx mx dx,rfl,hrc4.ext hq⟩ hv (P2_lt HTB.out.1 (by omega)) (P2_lt HTB.out.2 (by omega)) (int_P2 (by omega)) (int_P2d x))
         go_wp2
         have HF1:=fun (wx:World) (hC:Ext w4 wx)=>qh (And.intro (hC.cell cxi) (And.intro (hC.cell c6) (And.intro (hC.cell c7) (And.intro (hC.cell c8) (hC.cell c9)))))
         refine wp_region_typed2 (by kernel_rfl) (fun wx=>Ext w4 wx)
          [he (.pointer (some ⟨X,6,none⟩)),
 he (.agg #[.bool sx, .slice ax nx cx, .bool false, .slice bx mx dx]),
 he (.int .i64 (ii:Int)),
 he (.pointer (some ⟨X,0,none⟩)),
 he (.pointer (some ⟨X,ii,none⟩)),
 he (.int .i64 x),
 hp (fun v wx=>NR (x:Rat) v wx),
 hp (fun v wx=>NR (tq*(x:Rat)) v wx)]
          (by kernel_rfl) (fun _ _ e h=>h.trans e) ((Ext.refl w4).drew) ⟨trivial,trivial,trivial,trivial,trivial,trivial,NR.x _,NR.x _,trivial⟩ ⟨?o0, ?o1, ?o2, ?o3, ?o4, ?o5, ?o6, ?o7,trivial⟩ ?fin
         case o0=>exact ofa (d:=6) rfl rfl (fun _ _=>id) (by kernel_rfl) rfl
         case o1=>exact ol4 rfl rfl (fun _ _=>id) ⟨by kernel_rfl,by kernel_rfl⟩ (by assumption) (by assumption) (by assumption) (by assumption)
         case o2=>exact omv rfl rfl (fun _ _=>id)
         case o3=>exact ofa (d:=0) rfl rfl (fun _ _=>id) (by kernel_rfl) rfl
         case o4 =>
          refine obl_pq rfl fun ρ wx hC hcst h => ?_
          have e0:ρ (.tmp 42)=(.pointer (some ⟨X,0,none⟩)):=h.1
          have e1:ρ (.tmp 41)=(.int .i64 (ii:Int)):=h.2.1
          obtain ⟨kx,k6,k7,k8,k9⟩:=(HF1 wx hC).out
          go_simp
          try (first | (intros; omega) | exact IntWalk.i64_in _ (by omega))
         case o5=>exact ol rfl rfl (fun _ _=>id) (by kernel_rfl) (by assumption)
         case o6 =>
          refine obl_cq rfl fun ρ wx hC hcst hfn h => ?_
          have e1:ρ (.tmp 44)=(.int .i64 x):=h.2.1
          obtain ⟨kx,k6,k7,k8,k9⟩:=(HF1 wx hC).out
          refine ⟨80,#[.int .i64 x],by go_simp,((hsm wx hC).out).mono ?_⟩
          rintro e w' ⟨cs,rfl,hE',hr'⟩
          exact ⟨_,rfl,hE',cs,rfl,hr'⟩
         case o7 =>
          refine obl_cq rfl fun ρ wx hC hcst hfn h => ?_
          have e1:ρ (.tmp 40)=(.agg #[.bool sx, .slice ax nx cx, .bool false, .slice bx mx dx]):=h.2.1
          obtain ⟨v2,e2,cs2,rfl,r2⟩:=h.2.2.1
          obtain ⟨kx,k6,k7,k8,k9⟩:=(HF1 wx hC).out
          refine ⟨84,#[.agg #[.bool sx, .slice ax nx cx, .bool false, .slice bx mx dx], .agg cs2.toArray],by go_simp,((hmul wx hC _ ⟨cs2,rfl,r2⟩).out).mono ?_⟩
          rintro e w' ⟨cs,rfl,hE',hr'⟩
          exact ⟨_,rfl,hE',cs,rfl,hr'⟩
         case fin =>
          intro wx hC
          rintro _ ⟨_,rfl,_⟩
          rintro _ ⟨_,rfl,s9,a9,n9,c9,b9,m9,d9,rfl,z9⟩
          change wpList _ _ _ _ _ _
          simp only [List.length_cons,List.length_nil,List.drop_succ_cons,List.drop_zero,Act.put,List.setIfInBounds_toArray,List.set_cons_succ,List.set_cons_zero]
          have hBx:=hB4.ext hC
          have hOx:=hO4.ext hC
          have hEx:=hE1w.trans hC
          have hl9:(ratL s9 a9 n9 c9 false b9 m9 d9).toArray=#[.bool s9, .slice a9 n9 c9, .bool false, .slice b9 m9 d9]:=rfl
          have hrx:RatC wx (ratL s9 a9 n9 c9 false b9 m9 d9) (tq*(x:Rat)):=⟨s9,a9,n9,c9,b9,m9,d9,rfl,z9⟩
          go_upto_region 12 with (refine wl_stSub rfl rfl (ratL s9 a9 n9 c9 false b9 m9 d9) (entL te s9 a9 n9 c9 b9 m9 d9) (by kernel_rfl) rfl rfl (by rfl) hBx (by rw [entL_len,h6]; simp [ratL,intL]) (ratL_one _ _ _ _ _ _ _ _) (entL_rat h6) ?_; intro w5 hB5 hg5)
          have hO5:=hOx.keptX hBx entL_nu hneX hg5
          have hr5:=hrx.keptU (hBx.noU entL_nu) hg5
          have hE5:=hEx.grownR hg5 hX3
          have cxj:=entL_x hB5 (i:=ii) (by omega)
          rw [HX.out] at cxj
          clear hOx hrx hEx hg5 hBx hC z9
          go_upto_region 13 with (refine wl_stSub rfl rfl [.int .i64 (x-1)] (entL (te.set ii (x-1)) s9 a9 n9 c9 b9 m9 d9) (by kernel_rfl) rfl rfl rfl hB5 (by rw [entL_len,h6]; simp; omega) (by simp [Value.oneCell']) (entL_set te ii (by omega) (x-1)) ?_; intro w6 hB6 hg6)
          have hO6:=hO5.keptX hB5 entL_nu hneX hg6
          have hr6:=hr5.keptU (hB5.noU entL_nu) hg6
          have hE6:=hE5.grownR hg6 hX3
          have HTE:Hid (Pl.decE ii te=te.set ii (x-1)):=qh (by unfold Pl.decE; rw [HX.out])
          obtain ⟨y0,y1,y2,y3,y4,y5,hte⟩:=six_of (show (te.set ii (x-1)).length=6 by simp [h6])
          rw [hte] at hB6 HTE
          clear hte hO5 hr5 hE5 hB5 hg6 cxj
          have hl10:(entL [y0,y1,y2,y3,y4,y5] s9 a9 n9 c9 b9 m9 d9).toArray=#[.int .i64 y0, .int .i64 y1, .int .i64 y2, .int .i64 y3, .int .i64 y4, .int .i64 y5, .bool s9, .slice a9 n9 c9, .bool false, .slice b9 m9 d9]:=rfl
          have hE7:=(Ext.refl w6).alloc (.cells (entL [y0,y1,y2,y3,y4,y5] s9 a9 n9 c9 b9 m9 d9).toArray 95)
          have hO7:=hO6.ext hE7
          have hr7:=hr6.ext hE7
          have hL7:=Arr.new w6 95 (entL [y0,y1,y2,y3,y4,y5] s9 a9 n9 c9 b9 m9 d9)
          have hs7:=(hE6.trans hE7).size
          have hE67:=hE6.trans hE7
          go_upto_region 14 with (first | (refine wl_ldArr (cs:=entL [y0,y1,y2,y3,y4,y5] s9 a9 n9 c9 b9 m9 d9) rfl rfl agg_entry rfl hB6 ?_) | (refine wl_appEnt rfl rfl rfl rfl hO7 hL7 rfl hr7 (by omega) hs7 ?_; intro a8 c8 w8 hO8 hg8))
          have hE8:=hE67.grown hg8 (fun k hk=>by obtain ⟨rr,h1,_⟩:=hO7; exact (h1.lt hk).1)
          go_wp2
          go_roundw
          case rel=>exact ⟨k+1,a8,n'+1,c8,rfl,by go_num,by omega,by omega,hE8,by rw [HTK.out,HDS.out,if_pos hpos,HTE.out]; exact hO8⟩
          case measure=>simp [intOf]; omega
       · have hd1:decide ((0:Int)<x)=false:=decide_eq_false hpos
         go_wp2
         go_roundw
         case rel=>exact ⟨k+1,a',n',c',rfl,by go_num,by omega,by omega,hE1w,by rw [HTK.out,HDS.out,if_neg hpos,List.append_nil]; exact hO4⟩
         case measure=>simp [intOf]; omega
     · have hkn:k=n3:=by omega
       have HTL:Hid (l.take k=l):=qh (List.take_of_length_le (by rw [HLN.out]; omega))
       rw [HTL.out] at hO
       clear hkn HTL
       have hfo:=qh (HFT.out.out (der_nrm HBB.out.2.1) (fun _=>rfl))
       have hlo:=hO.len
       have hva:=HBB.out.2.2.2.1
       have hwr:=qh (poly_write (vars:=vn) (w0:=w3) (hT.ext hEw) hE hO (by omega) hfo.out.1 hfo.out.2.1 (by have:=hfo.out.2.2; omega))
       have p00:=hE.cell p00
       have hRr:=hR3.ext hE
       clear hlo hva
       go_wp2_with fail
       refine hwr.out.mono ?_
       intro e w7 hw
       have hq:=RetWr.q (p:=Pl.derT ii l) hw (der_nrm HBB.out.2.1) (fun _=>rfl)
       obtain ⟨rr,HRR⟩:∃ r,Hid (resQ (vn:Int) (Pl.derT ii l)=r):=⟨_,qh rfl⟩
       rw [HRR.out] at hq
       obtain ⟨a7,n7,c7,rfl,hE7,hO7⟩:=hq
       have hpv:polyV rr.1 a7 n7 c7 = .agg #[.int .i64 rr.1, .slice a7 n7 c7]:=rfl
       rw [hpv]
       have hpl:(polyL rr.1 a7 n7 c7).toArray=#[.int .i64 rr.1, .slice a7 n7 c7]:=rfl
       have hR7:=hR3.ext hE7
       clear hw hwr hfo
       go_wp2_with (refine wl_stArr (vs:=polyL rr.1 a7 n7 c7) rfl rfl rfl rfl rfl agg_Poly hR7 rfl (polyL_one _ _ _ _) ?_; intro w8 hB8 hg8)
       refine bodyPost_ret (res_ct rfl agg_Poly rfl rfl hB8) rfl ?_
       show RetA3 _ (derA _ _ _) _ _
       rw [HDA.out,HRR.out]
       exact ⟨a7,n7,c7,rfl,(hEw.trans hE7).grownR hg8 (by omega),(hO7.mono hEw.size).keptA hR7 hg8⟩
  · have HDA:Hid (derA va i (some l)=(0,[],3)):=qh (by unfold derA; simp only; rw [if_neg hi])
    have hva:=HBB.out.2.2.2.1
    by_cases hi0:i<0
    · clear hi
      go_wp2_with (refine wl_stArr (vs:=polyL 0 none 0 0) rfl rfl rfl rfl rfl agg_Poly hR3 rfl (polyL_one _ _ _ _) ?_; intro w9 hB9 hg9)
      refine bodyPost_ret (res_ct rfl agg_Poly rfl rfl hB9) rfl ?_
      show RetA3 _ (derA _ _ _) _ _
      rw [HDA.out]
      exact ⟨none,0,0,rfl,hEw.grownR hg9 (by omega),TmO.nil _ _⟩
    · have hiv:va≤i:=by omega
      clear hi
      go_wp2_with (refine wl_stArr (vs:=polyL 0 none 0 0) rfl rfl rfl rfl rfl agg_Poly hR3 rfl (polyL_one _ _ _ _) ?_; intro w9 hB9 hg9)
      refine bodyPost_ret (res_ct rfl agg_Poly rfl rfl hB9) rfl ?_
      show RetA3 _ (derA _ _ _) _ _
      rw [HDA.out]
      exact ⟨none,0,0,rfl,hEw.grownR hg9 (by omega),TmO.nil _ _⟩
end Go.Proofs.YtbiifaciddajnaaGreatDoor
namespace Go.Proofs.YtbiifaciddajnaaGreatDoor
open Go Go.RowKit
theorem resQ_fine {v:Int} {p:List Pl.Tm} (hi:∀ t∈p,InV v.toNat t.1) (hl:p.length≤4096) (hs:∀ t∈p,t.1.sum≤24):(resQ v p).2.2=0:=by
 have h6:∀ t∈p,t.1.length=6:=fun t ht=>(hi t ht).1
 unfold resQ
 rw [if_pos]
 refine ⟨Nat.le_trans (cnP_len h6) hl,fun t r e => ?_⟩
 obtain ⟨s,hs',e'⟩:=cnP_key h6 (t:=t) (by rw [e]; simp)
 rw [←e']
 exact validS_iff.2 ⟨by rw [h6 s hs']; omega,(hi s hs').2.1,hs s hs'⟩
theorem resQ_eta {v:Int} {p:List Pl.Tm} {r:Int×List Tx×Int} (h:resQ v p=r) (h0:r.2.2=0) (hv:0≤v∧v≤6) (hi:∀ t∈p,InV v.toNat t.1):r.1=v∧rdP v r.2.1=some (cnP p):=by
 subst h
 exact resQ_ok hv hi h0
theorem decE_InV {n i:Nat} {e:List Int} (h:InV n e) (hi:i<n) (hp:0<e.getD i 0):InV n (Pl.decE i e)∧(Pl.decE i e).sum=e.sum-1:=by
 obtain ⟨h6,hn,hpad⟩:=h
 have hsum:∀ (i:Nat) (e:List Int) (v:Int),i<e.length→(e.set i v).sum=e.sum-e.getD i 0+v:=by
  intro i
  induction i with
  | zero =>
   intro e v h
   cases e with
   | nil=>simp at h
   | cons x r=>simp only [List.set_cons_zero,List.sum_cons,List.getD_cons_zero]; omega
  | succ i ih =>
   intro e v h
   cases e with
   | nil=>simp at h
   | cons x r =>
    simp only [List.set_cons_succ,List.sum_cons,List.getD_cons_succ]
    rw [ih r v (by simpa using h)]
    omega
 have hi6:i<e.length:=by
  rcases Nat.lt_or_ge i e.length with h|h
  · exact h
  · rw [List.getD_eq_getElem?_getD,List.getElem?_eq_none h] at hp
    simp at hp
 refine ⟨⟨by rw [decE_len,h6],fun x hx => ?_, ?_⟩, ?_⟩
 · unfold Pl.decE at hx
   rcases List.mem_or_eq_of_mem_set hx with hx|rfl
   · exact hn x hx
   · omega
 · unfold pad6 at hpad ⊢
   have e1:(Pl.decE i e).take n=(e.take n).set i (e.getD i 0-1):=by unfold Pl.decE; rw [List.take_set]
   rw [e1,List.length_set]
   unfold Pl.decE
   conv=>rhs; rw [←hpad]
   rw [List.set_append_left _ _ (by rw [List.length_take]; omega)]
   congr 2
   rw [hpad]
 · unfold Pl.decE
   rw [hsum i e _ hi6]
   omega
section
variable {va vb vc:Int} {ta tb tc:List Tx}
theorem derT_InV {v:Int} {i:Nat} {l:List Pl.Tm} (h:Pv v l) (hi:(i:Int)<v):∀ t∈Pl.derT i l,InV v.toNat t.1:=by
 intro u hu
 obtain ⟨t,ht,hp,rfl⟩:=derT_mem hu
 exact (decE_InV (h.inv t ht) (by omega) hp).1
theorem derT_sum {v:Int} {i:Nat} {l:List Pl.Tm} (h:Pv v l) (hi:(i:Int)<v):∀ u∈Pl.derT i l,∃ t∈l,u.1.sum=t.1.sum-1:=by
 intro u hu
 obtain ⟨t,ht,hp,rfl⟩:=derT_mem hu
 exact ⟨t,ht,(decE_InV (h.inv t ht) (by omega) hp).2⟩
theorem Pv.der {v:Int} {i:Nat} {l:List Pl.Tm} (h:Pv v l) (hi:(i:Int)<v):Pv v (cnP (Pl.derT i l)) :=
 ⟨h.v0,(cnP_spec fun t ht=>(derT_InV h hi t ht).1).1,cnP_InV (derT_InV h hi)⟩
theorem Pv.cder {v:Int} {i:Nat} {l:List Pl.Tm} (h:Pv v l) (hi:(i:Int)<v) (e:List Int):Pl.coef (cnP (Pl.derT i l)) e=Pl.coef (Pl.derT i l) e:=(cnP_spec fun t ht=>(derT_InV h hi t ht).1).2 e
theorem SB.der {D Y X:Nat} {i:Nat} {l:List Pl.Tm} (h:Pl.SB D Y l) (hx:∀ t∈l,∀ x∈t.1,0≤x∧x≤(X:Int)):Pl.SB D (Y*X) (Pl.derT i l):=by
 intro u hu
 obtain ⟨t,ht,hp,rfl⟩:=derT_mem hu
 have hm:t.1.getD i 0∈t.1:=by
  rcases Nat.lt_or_ge i t.1.length with h|h
  · simp [List.getD_eq_getElem?_getD,h]
  · rw [List.getD_eq_getElem?_getD,List.getElem?_eq_none h] at hp
    simp at hp
 have hb:=hx t ht _ hm
 have h1:Pl.QB 1 X ((t.1.getD i 0:Int):Rat):=⟨t.1.getD i 0,by rw [show ((1:Nat):Rat)=1 from rfl,Rat.mul_one],by omega⟩
 have:=(h t ht).mul h1
 rwa [Nat.mul_one] at this
section
variable {v:Int} {N d y i:Nat} {la:List Pl.Tm} {ts:List Tx}
theorem P2_20:P2 20=1048576:=by unfold P2; decide
theorem Bd.der1 (ha:Bd v N d y la):(Pl.derT i la).length≤N∧∃ D,0<D∧D<P2 d∧Pl.SB D (P2 (y+20)) (Pl.derT i la):=by
 obtain ⟨D,h1,h2,h3⟩:=ha.sb
 refine ⟨Nat.le_trans (derT_len i la) ha.len,D,h1,h2, ?_⟩
 rw [P2_add]
 exact SB.der h3 (fun t ht x hx=>by have:=(ha.lo t ht).2 x hx; rw [P2_20]; exact this)
theorem Bd.der {k:Nat} (ha:Bd v N d y la) (hi:(i:Int)<v) (h:rdP v ts=some (cnP (Pl.derT i la))) (hk:N≤P2 k):Bd v N d (k+(y+20)) (cnP (Pl.derT i la)):=by
 have h6:∀ t∈Pl.derT i la,t.1.length=6:=fun t ht=>(derT_InV ha.pv hi t ht).1
 obtain ⟨hl,D,h1,h2,h3⟩:=ha.der1 (i:=i)
 refine ⟨ha.pv.der hi,rdP_exps h,Nat.le_trans (cnP_len h6) hl,D,h1,h2,(SB.cn h6 h3).mono ?_⟩
 rw [P2_add k]
 exact Nat.mul_le_mul_right _ (Nat.le_trans hl hk)
theorem Bd.derOK {k:Nat} (ha:Bd v N d y la) (hk:N≤P2 k) (h1:d≤1920) (h2:k+(y+20)<1920) (h3:N≤1000):FitsP (Pl.derT i la):=by
 obtain ⟨hl,D,g1,g2,g3⟩:=ha.der1 (i:=i)
 refine fits_SB (b:=1920) g3 g1 (P2_lt g2 h1) ?_ (by omega) (fun u hu => ?_) (by omega)
 · refine Nat.lt_of_le_of_lt ?_ (P2_slt h2)
   rw [P2_add k]
   exact Nat.mul_le_mul_right _ (Nat.le_trans hl hk)
 · obtain ⟨t,ht,hp,rfl⟩:=derT_mem hu
   refine ⟨by rw [decE_len]; exact (ha.lo t ht).1,fun x hx => ?_⟩
   unfold Pl.decE at hx
   rcases List.mem_or_eq_of_mem_set hx with hx|rfl
   · have:=(ha.lo t ht).2 x hx; omega
   · have hm:t.1.getD i 0∈t.1:=by
      rcases Nat.lt_or_ge i t.1.length with h|h
      · simp [List.getD_eq_getElem?_getD,h]
      · rw [List.getD_eq_getElem?_getD,List.getElem?_eq_none h] at hp
        simp at hp
     have:=(ha.lo t ht).2 _ hm
     omega
end
theorem der_fact {i v:Int} {t:List Tx} (h:derA va i (rdP va ta)=(v,t,0)):∃ la,rdP va ta=some la∧(0≤i∧i<va)∧v=va∧rdP v t=some (cnP (Pl.derT i.toNat la)):=by
 unfold derA at h
 split at h
 · rename_i l hl
   split at h
   · rename_i hi
     have pa:=Pv.of hl
     obtain ⟨g1,g2⟩:=resQ_eta h rfl pa.v0 (derT_InV pa (by omega))
     simp only at g1 g2
     exact ⟨l,hl,hi,g1,by rw [g1]; exact g2⟩
   · cases h
 · cases h
theorem der_val {i:Int} {l:List Pl.Tm} (hi:0≤i∧i<va):derA va i (some l)=resQ va (Pl.derT i.toNat l):=by
 unfold derA
 simp only
 rw [if_pos hi]
theorem canon_le {v:Int} {t:List Tx} {l:List Pl.Tm} (h:rdP v t=some l):∀ u∈l,u.1.sum≤24:=by
 have hd:=rdP_deg h
 intro u hu
 have:=le_degL hu
 omega
theorem Bd85 {v:Int} {ts:List Tx} {l:List Pl.Tm} (h:rdP v ts=some l) (hs:smallP ts 5 8):Bd v 5 121 148 l:=Bd.of h hs (by omega) P2_27
theorem der_mul (s1:smallP ta 5 8) (s2:smallP tb 5 8):∀ la lb,rdP va ta=some la→rdP vb tb=some lb→va=vb→MulOK la lb:=by
 rintro la lb h1 h2 rfl
 exact (Bd85 h1 s1).mul (Bd85 h2 s2) (k:=5) (P2_num 5 (by decide) rfl) (by omega) (by omega) (by omega) (by omega)
theorem der_ok (s1:smallP ta 5 8) (i:Int):∀ l,rdP va ta=some l→0≤i→i<va→FitsP (Pl.derT i.toNat l):=fun l h _ _ =>
 (Bd85 h s1).derOK (k:=3) (P2_num 3 (by decide) rfl) (by omega) (by omega) (by omega)
theorem mulA_fine {v:Int} {la lb:List Pl.Tm} (ha:Pv v la) (hb:Pv v lb) (hl:la.length*lb.length≤4096) (hs:∀ x∈la,∀ y∈lb,x.1.sum+y.1.sum≤24):mulA v v (some la) (some lb)=resQ v (Pl.prodT la lb)∧(resQ v (Pl.prodT la lb)).2.2=0:=by
 constructor
 · unfold mulA
   simp only [if_pos]
   rw [if_neg]
   rintro ⟨h1,h2,h3⟩
   obtain ⟨t,r,rfl⟩:=List.exists_cons_of_ne_nil h1
   obtain ⟨s,q,rfl⟩:=List.exists_cons_of_ne_nil h2
   rw [degL_head ha.can (by have:=(sum_nn (ha.inv t (by simp)).2.1).1; omega),degL_head hb.can (by have:=(sum_nn (hb.inv s (by simp)).2.1).1; omega)] at h3
   have:=hs t (by simp) s (by simp)
   omega
 · refine resQ_fine (prod_InV ha.inv hb.inv) (by rw [prodT_len]; exact hl) fun u hu => ?_
   obtain ⟨x,hx,y,hy,e⟩:=prodT_key hu
   rw [e,Pl.plE_sum (by rw [ha.can.len x hx,hb.can.len y hy])]
   exact hs x hx y hy
structure DerS (va i k v3 v4 v5:Int) (ta tb t3 t4 t5:List Tx):Prop where
 v:va=v3∧va=v4∧va=v5
 x3:∀ t∈t3,t.1.length≤570
 x4:∀ t∈t4,t.1.length≤570
 x5:∀ t∈t5,t.1.length≤570
 o3:∀ l,rdP v3 t3=some l→0≤i→i<v3→FitsP (Pl.derT i.toNat l)
 o4:∀ l,rdP v4 t4=some l→0≤k→k<v4→FitsP (Pl.derT k.toNat l)
 m4:∀ la lb,rdP v4 t4=some la→rdP va tb=some lb→v4=va→MulOK la lb
 m5:∀ la lb,rdP va ta=some la→rdP v5 t5=some lb→va=v5→MulOK la lb
 out:∃ t6 t7 t8 t9 t10,derA v3 i (rdP v3 t3)=(va,t6,0)∧mulA v4 va (rdP v4 t4) (rdP va tb)=(va,t7,0)∧mulA va v5 (rdP va ta) (rdP v5 t5)=(va,t8,0) ∧
  addA va va (rdP va t7) (rdP va t8)=(va,t6,0)∧(∀ t∈t7,t.1.length≤570)∧(∀ t∈t8,t.1.length≤570)∧(∀ la lb,rdP va t7=some la→rdP va t8=some lb→va=va→SumOK (la ++ lb)) ∧
  derA v4 k (rdP v4 t4)=(va,t9,0)∧derA va k (rdP va ta)=(va,t10,0)∧derA va i (rdP va t10)=(va,t9,0)∧(∀ t∈t10,t.1.length≤570)∧∀ l,rdP va t10=some l→0≤i→i<va→FitsP (Pl.derT i.toNat l)
theorem eta3 {r:Int×List Tx×Int} {v:Int} (h1:r.1=v) (h2:r.2.2=0):r=(v,r.2.1,0):=by
 obtain ⟨a,b,c⟩:=r
 simp only at h1 h2
 rw [h1,h2]
theorem derS {i k v3 v4 v5:Int} {t3 t4 t5:List Tx} (s1:smallP ta 5 8) (s2:smallP tb 5 8) (hi:0≤i∧i<va) (hk:0≤k∧k<va) (h3:mulA va va (rdP va ta) (rdP va tb)=(v3,t3,0)) (h4:derA va i (rdP va ta)=(v4,t4,0)) (h5:derA va i (rdP va tb)=(v5,t5,0)) :
 DerS va i k v3 v4 v5 ta tb t3 t4 t5:=by
 obtain ⟨la,lb,ra,rb,_,e3,r3⟩:=mul_fact h3
 obtain ⟨la',ra',_,e4,r4⟩:=der_fact h4
 obtain ⟨lb',rb',_,e5,r5⟩:=der_fact h5
 rw [ra] at ra'
 rw [rb] at rb'
 cases ra'; cases rb'
 have e3:=e3.symm
 have e4:=e4.symm
 have e5:=e5.symm
 subst e3; subst e4; subst e5
 have ba:=Bd85 ra s1
 have bb:=Bd85 rb s2
 have b3:=ba.prod bb r3 (k:=5) (P2_num 5 (by decide) rfl)
 obtain ⟨ii,rfl⟩:∃ j:Nat,i=(j:Int):=⟨i.toNat,by omega⟩
 obtain ⟨kk,rfl⟩:∃ j:Nat,k=(j:Int):=⟨k.toNat,by omega⟩
 rw [Int.toNat_natCast] at r4 r5
 have b4:=ba.der hi.2 r4 (k:=3) (P2_num 3 (by decide) rfl)
 have b5:=bb.der hi.2 r5 (k:=3) (P2_num 3 (by decide) rfl)
 -- degrees
 obtain ⟨_,_,q1,q2,_,hdeg,_⟩:=mulA_ok (by rw [h3])
 rw [ra] at q1
 rw [rb] at q2
 cases q1; cases q2
 have hsum:∀ x∈la,∀ y∈lb,x.1.sum+y.1.sum≤24:=by
  intro x hx y hy
  have g1:=le_degL hx
  have g2:=le_degL hy
  have:¬ 24<degL la+degL lb:=fun h=>hdeg ⟨List.ne_nil_of_mem hx,List.ne_nil_of_mem hy,h⟩
  omega
 have k4:∀ u∈cnP (Pl.derT ii la),∃ x∈la,u.1.sum=x.1.sum-1:=by
  intro u hu
  obtain ⟨m,hm,e⟩:=cnP_key (fun t ht=>(derT_InV ba.pv hi.2 t ht).1) hu
  rw [←e]
  exact derT_sum ba.pv hi.2 m hm
 have k5:∀ u∈cnP (Pl.derT ii lb),∃ x∈lb,u.1.sum=x.1.sum-1:=by
  intro u hu
  obtain ⟨m,hm,e⟩:=cnP_key (fun t ht=>(derT_InV bb.pv hi.2 t ht).1) hu
  rw [←e]
  exact derT_sum bb.pv hi.2 m hm
 have n3:=b3.len
 have n4:=b4.len
 have n5:=b5.len
 have na:=ba.len
 have nb:=bb.len
 obtain ⟨mu1,mu2⟩:=mulA_fine b4.pv bb.pv (by have:=Nat.mul_le_mul n4 nb; omega) (fun x hx y hy=>by
  obtain ⟨x',hx',e⟩:=k4 x hx
  have:=hsum x' hx' y hy
  omega)
 obtain ⟨mv1,mv2⟩:=mulA_fine ba.pv b5.pv (by have:=Nat.mul_le_mul na n5; omega) (fun x hx y hy=>by
  obtain ⟨y',hy',e⟩:=k5 y hy
  have:=hsum x hx y' hy'
  omega)
 have hu:=eta3 (resQ_ok ba.pv.v0 (prod_InV b4.pv.inv bb.pv.inv) mu2).1 mu2
 have ru:=(resQ_ok ba.pv.v0 (prod_InV b4.pv.inv bb.pv.inv) mu2).2
 have hv:=eta3 (resQ_ok ba.pv.v0 (prod_InV ba.pv.inv b5.pv.inv) mv2).1 mv2
 have rv:=(resQ_ok ba.pv.v0 (prod_InV ba.pv.inv b5.pv.inv) mv2).2
 have bu:=b4.prod bb ru (k:=5) (P2_num 5 (by decide) rfl)
 have bv:=ba.prod b5 rv (k:=5) (P2_num 5 (by decide) rfl)
 -- the derivative of the product
 have f6:(resQ va (Pl.derT ii (cnP (Pl.prodT la lb)))).2.2=0:=resQ_fine (derT_InV b3.pv hi.2) (by have:=derT_len ii (cnP (Pl.prodT la lb)); omega) (fun u hu=>by
  obtain ⟨t,ht,e⟩:=derT_sum b3.pv hi.2 u hu
  have:=canon_le r3 t ht
  omega)
 have h6:=eta3 (resQ_ok b3.pv.v0 (derT_InV b3.pv hi.2) f6).1 f6
 have hadd:resQ va (cnP (Pl.prodT (cnP (Pl.derT ii la)) lb) ++ cnP (Pl.prodT la (cnP (Pl.derT ii lb))))=resQ va (Pl.derT ii (cnP (Pl.prodT la lb))):=resQ_congr fun e=>by
  rw [Pl.coef_app,b4.pv.cprod bb.pv,ba.pv.cprod b5.pv,Pl.coef_prod_ext (ba.pv.cder hi.2) (fun _=>rfl) e,Pl.coef_prod_ext (fun _=>rfl) (bb.pv.cder hi.2) e,←Pl.coef_app,Pl.der_ext (ba.pv.cprod bb.pv) e]
  exact (Pl.der_prod (n:=6) (by have:=ba.pv.v0; omega) (fun t ht=>⟨ba.pv.can.len t ht,by
   rcases Nat.lt_or_ge ii t.1.length with h|h
   · exact (ba.pv.inv t ht).2.1 _ (by simp [List.getD_eq_getElem?_getD,h])
   · rw [List.getD_eq_getElem?_getD,List.getElem?_eq_none h]; simp⟩) (fun t ht=>⟨bb.pv.can.len t ht,by
   rcases Nat.lt_or_ge ii t.1.length with h|h
   · exact (bb.pv.inv t ht).2.1 _ (by simp [List.getD_eq_getElem?_getD,h])
   · rw [List.getD_eq_getElem?_getD,List.getElem?_eq_none h]; simp⟩) e).symm
 -- the second derivatives
 have f9:(resQ va (Pl.derT kk (cnP (Pl.derT ii la)))).2.2=0:=resQ_fine (derT_InV b4.pv hk.2) (by have:=derT_len kk (cnP (Pl.derT ii la)); omega) (fun u hu=>by
  obtain ⟨t,ht,e⟩:=derT_sum b4.pv hk.2 u hu
  have:=canon_le r4 t ht
  omega)
 have h9:=eta3 (resQ_ok b4.pv.v0 (derT_InV b4.pv hk.2) f9).1 f9
 have f10:(resQ va (Pl.derT kk la)).2.2=0:=resQ_fine (derT_InV ba.pv hk.2) (by have:=derT_len kk la; omega) (fun u hu=>by
  obtain ⟨t,ht,e⟩:=derT_sum ba.pv hk.2 u hu
  have:=canon_le ra t ht
  omega)
 have h10:=eta3 (resQ_ok ba.pv.v0 (derT_InV ba.pv hk.2) f10).1 f10
 have r10:=(resQ_ok ba.pv.v0 (derT_InV ba.pv hk.2) f10).2
 have b10:=ba.der hk.2 r10 (k:=3) (P2_num 3 (by decide) rfl)
 have hcm:resQ va (Pl.derT ii (cnP (Pl.derT kk la)))=resQ va (Pl.derT kk (cnP (Pl.derT ii la))):=resQ_congr fun e=>by
  rw [Pl.der_ext (ba.pv.cder hk.2) e,Pl.der_ext (ba.pv.cder hi.2) e]
  exact Pl.der_comm ii kk la e
 refine { v:=⟨rfl,rfl,rfl⟩,x3:=b3.text r3 (by omega) (by omega),x4:=b4.text r4 (by omega) (by omega),x5:=b5.text r5 (by omega) (by omega),o3 := ?_,o4 := ?_,m4 := ?_,m5 := ?_,out := ?_ }
 · intro l hl _ _
   rw [r3] at hl
   cases hl
   exact b3.derOK (k:=5) (P2_num 5 (by decide) rfl) (by omega) (by omega) (by omega)
 · intro l hl _ _
   rw [r4] at hl
   cases hl
   exact b4.derOK (k:=3) (P2_num 3 (by decide) rfl) (by omega) (by omega) (by omega)
 · intro x y hx hy _
   rw [r4] at hx
   rw [rb] at hy
   cases hx; cases hy
   exact b4.mul bb (k:=5) (P2_num 5 (by decide) rfl) (by omega) (by omega) (by omega) (by omega)
 · intro x y hx hy _
   rw [ra] at hx
   rw [r5] at hy
   cases hx; cases hy
   exact ba.mul b5 (k:=5) (P2_num 5 (by decide) rfl) (by omega) (by omega) (by omega) (by omega)
 · refine ⟨_,_,_,_,_,by rw [r3,der_val hi,Int.toNat_natCast]; exact h6,by rw [r4,rb,mu1]; exact hu,by rw [ra,r5,mv1]; exact hv, ?_,bu.text ru (by omega) (by omega),bv.text rv (by omega) (by omega), ?_,by rw [r4,der_val hk,Int.toNat_natCast]; exact h9,by rw [ra,der_val hk,Int.toNat_natCast]; exact h10, ?_,b10.text r10 (by omega) (by omega), ?_⟩
   · rw [ru,rv]
     unfold addA
     simp only [if_pos]
     rw [hadd]
     exact h6
   · intro x y hx hy _
     rw [ru] at hx
     rw [rv] at hy
     cases hx; cases hy
     exact bu.sum bv (k:=6) (m:=1000) (by omega) (by omega) (P2_num 6 (by decide) rfl) (by omega) (by omega) (by omega)
   · rw [r10,der_val hi,Int.toNat_natCast,hcm]
     exact h9
   · intro l hl _ _
     rw [r10] at hl
     cases hl
     exact b10.derOK (k:=3) (P2_num 3 (by decide) rfl) (by omega) (by omega) (by omega)
end
theorem poly_DeriveV {va i:Int} {a:Option Addr} {n c:Nat} {ta:List Tx} {w:World} {v err:Int} {t:List Tx} (hr:derA va i (rdP va ta)=(v,t,err)) (hT:Tabs w) (ha:TmSl w a n c ta) (sa:∀ t∈ta,t.1.length≤570)
 (hok:∀ l,rdP va ta=some l→0≤i→i<va→FitsP (Pl.derT i.toNat l)) :
 Calls Tryz.prog 29 #[.agg #[.int .i64 va, .slice a n c], .int .i64 i] w (RetV w v t err) :=
 (poly_Derive hT ha sa hok).mono fun e w' h=>by
  rw [hr] at h
  exact RetP.v h
end Go.Proofs.YtbiifaciddajnaaGreatDoor
