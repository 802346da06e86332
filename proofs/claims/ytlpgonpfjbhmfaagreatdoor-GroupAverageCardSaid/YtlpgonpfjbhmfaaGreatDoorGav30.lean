/- Part Gav30. -/
import Derived.Test.YtlpgonpfjbhmfaaGreatDoorGav29
import Derived.Shelf.SlSortCmp.NoneTotal
import Derived.Test.YtlpgonpfjbhmfaaGreatDoorGav23
set_option maxRecDepth 100000
set_option maxHeartbeats 100000000
namespace Go.Proofs.YtlpgonpfjbhmfaaGreatDoor
open Tryz Go Go.RowKit Go.Sort
variable {s s':Bool} {rows:List (List Value)} {e te te':List Int} {base c d g m n:Nat} {a a' b b':Option Addr} {t:TypeId} {w:World}
def EV:Type:={ p:List Value×Pl.Tm // (∃ s a n c b m d,p.1=At p.2.1 s a n c b m d)∧p.2.1.length=6∧∀ x∈p.2.1,0≤x∧x≤1099511627776 }
def EV.enc (v:EV):List Value:=v.1.1
def EV.tm (v:EV):Pl.Tm:=v.1.2
instance : Inhabited EV:=⟨⟨(At ze false none 0 0 none 0 0,(ze,0)),⟨false,none,0,0,none,0,0,rfl⟩,rfl,by simp [ze]⟩⟩
theorem EV.len (v:EV):v.enc.length=10:=by
 obtain ⟨⟨r,t⟩,⟨s,a,n,c,b,m,d,h⟩,h6,_⟩:=v;show r.length=10;rw [show r=_ from h,Dl,h6]
theorem EV.one (v:EV):∀ u∈v.enc,u.oneCell'=true:=by
 obtain ⟨⟨r,t⟩,⟨s,a,n,c,b,m,d,h⟩,h6,_⟩:=v;intro u hu;have:r=At t.1 s a n c b m d:=h;subst this;exact Bk u hu
theorem EV.nu (v:EV):∀ u∈v.enc,∀ i,u ≠ .int .u64 i:=by
 obtain ⟨⟨r,t⟩,⟨s,a,n,c,b,m,d,h⟩,h6,_⟩:=v;intro u hu;have:r=At t.1 s a n c b m d:=h;subst this;exact B2 u hu
theorem EV.six (v:EV):v.tm.1.length=6:=v.2.2.1
def cfE (x y:EV):Int:=Pl.ordE y.tm.1 x.tm.1
theorem NC {x y:EV} (h:ltOf cfE x y=true):cfE x y<0:=of_decide_eq_true h
theorem Ii {x y:EV} (h:ltOf cfE x y=false):¬ cfE x y<0:=of_decide_eq_false h
theorem Ws:SWO (ltOf cfE) where
 irrefl x:=decide_eq_false (by unfold cfE; rw [Pl.ordE_self]; omega)
 trans x y z h1 h2:=by
  have a1:=NC h1;have a2:=NC h2;unfold cfE at a1 a2;have e1:=Pl.ordE_anti x.tm.1 y.tm.1;have e2:=Pl.ordE_anti y.tm.1 z.tm.1;have e3:=Pl.ordE_anti x.tm.1 z.tm.1;have:=Pl.ordE_trans (a:=x.tm.1) (b:=y.tm.1) (c:=z.tm.1) (by omega) (by omega);exact decide_eq_true (by unfold cfE; omega)
 ntrans x y z h1 h2:=by
  have a1:=Ii h1;have a2:=Ii h2;unfold cfE at a1 a2;refine decide_eq_false ?_;unfold cfE;intro h3;have e1:=Pl.ordE_anti x.tm.1 y.tm.1;have e2:=Pl.ordE_anti y.tm.1 z.tm.1;have e3:=Pl.ordE_anti x.tm.1 z.tm.1;by_cases h:Pl.ordE y.tm.1 x.tm.1=0
  · rw [Pl.ordE_eq (by rw [x.six,y.six]) h] at a2;omega
  · have:=Pl.ordE_trans (a:=y.tm.1) (b:=x.tm.1) (c:=z.tm.1) (by omega) (by omega);omega
theorem NE (w:World) (A B:Obj) (n:Nat):((w.alloc A).alloc B).drewN n=grow (w.drewN n) #[A,B]:=by
 rw [alloc_eq_grow,alloc_eq_grow,grow_grow];rfl
theorem Mq (h:Arr w g t (At e s a n c b m d)) (h6:e.length=6):SlI w (some ⟨g,0,none⟩) 6 6 e:=by
 refine ⟨by simpa using h6,lrf _,by unfold maxLen; omega,fun _=>⟨g,0,rfl,fun i hi => ?_⟩⟩;rw [Nat.zero_add,h.cell (by rw [Dl]; omega)];have h1:(At e s a n c b m d).getD i undef=(e.map (Value.int .i64)).getD i undef:=by
  unfold At;rw [gqq,List.getElem?_append_left (by simp; omega),←gqq]
 rw [h1]
theorem OW {n' c' m' d':Nat} (h6:te.length=6) (h6':te'.length=6) (hb:∀ x∈te,0≤x∧x≤1099511627776) (hb':∀ x∈te',0≤x∧x≤1099511627776) :
 Calls prog 82 #[.agg (At te s a n c b m d).toArray, .agg (At te' s' a' n' c' b' m' d').toArray] w fun e w'=>e = .returned (.int .i64 (Pl.ordE te' te))∧∃ q os,w'=grow (w.drewN q) os:=by
 have HO:=fun (wx:World) (h1:SlI wx (some ⟨w.heap.size+1,0,none⟩) 6 6 te') (h2:SlI wx (some ⟨w.heap.size,0,none⟩) 6 6 te)=>qh (J1 h1 h2 (by omega) (fun z hz=>by have:=hb' z hz; omega) (fun z hz=>by have:=hb z hz; omega));obtain ⟨V,hV⟩:∃ V,Pl.ordE te' te=V:=⟨_,rfl⟩;rw [hV] at HO ⊢;clear hb hb' hV;obtain ⟨x0,x1,x2,x3,x4,x5,e6⟩:=Dr h6;obtain ⟨y0,y1,y2,y3,y4,y5,e6'⟩:=Dr h6';subst e6;subst e6'
 have hl:(At [x0,x1,x2,x3,x4,x5] s a n c b m d).toArray=#[.int .i64 x0, .int .i64 x1, .int .i64 x2, .int .i64 x3, .int .i64 x4, .int .i64 x5, .bool s, .slice a n c, .bool false, .slice b m d]:=rfl;have hl':(At [y0,y1,y2,y3,y4,y5] s' a' n' c' b' m' d').toArray=#[.int .i64 y0, .int .i64 y1, .int .i64 y2, .int .i64 y3, .int .i64 y4, .int .i64 y5, .bool s', .slice a' n' c', .bool false, .slice b' m' d']:=rfl;have hA0:=Jy w (At [x0,x1,x2,x3,x4,x5] s a n c b m d) (At [y0,y1,y2,y3,y4,y5] s' a' n' c' b' m' d') 111 111
 have hA1:=Jz w (At [x0,x1,x2,x3,x4,x5] s a n c b m d) (At [y0,y1,y2,y3,y4,y5] s' a' n' c' b' m' d') 111 111;have hs0:=Mq hA0 rfl;have hs1:=Mq hA1 rfl;rw [hl,hl'] at hs0 hs1;rw [hl,hl'];clear hA0 hA1
 go_enter func82,ntmps82
 go_wp2
 go_quiet (exact Calls.quiet_of (HO _ (hs1.ext ((Ext.refl _).drewN _)) (hs0.ext ((Ext.refl _).drewN _))).out)
 go_wp2;go_ret;exact ⟨rfl,nq,_,NE _ _ _ _⟩
theorem Q2 (x y:EV) (w:World):Calls prog 82 #[.agg x.enc.toArray, .agg y.enc.toArray] w fun e w'=>e = .returned (.int .i64 (cfE x y))∧∃ q os,w'=grow (w.drewN q) os:=by
 obtain ⟨⟨r,t⟩,⟨s,a,n,c,b,m,d,h⟩,h6,hb⟩:=x;obtain ⟨⟨r',t'⟩,⟨s',a',n',c',b',m',d',h'⟩,h6',hb'⟩:=y;have e1:r=At t.1 s a n c b m d:=h;have e2:r'=At t'.1 s' a' n' c' b' m' d':=h';subst e1;subst e2;exact OW h6 h6' hb hb'
theorem EN (d:Array EV):(flatK EV.enc 10 d).toList=(d.toList.map EV.enc).flatten:=by
 have hw:∀ r∈d.toList.map EV.enc,r.length=10:=by
  intro r hr;obtain ⟨v,_,rfl⟩:=List.mem_map.1 hr;exact v.len
 refine List.ext_getElem? fun j => ?_;by_cases hj:j<d.size*10
 · have hje:j=j/10*10+j%10:=by omega
   have hjd:j/10<d.size:=by omega
   have h3:=Ek (d.toList.map EV.enc) hw (j/10) (j%10) (by omega);rw [←hje] at h3;rw [h3];have hl2:d[j/10].enc.length=10:=EV.len _;simp [flatK,hj,hjd];rw [List.getElem?_eq_getElem (by rw [hl2]; omega)];rfl
 · have h1:(flatK EV.enc 10 d).toList.length≤j:=by simp; omega
   have h2:(d.toList.map EV.enc).flatten.length≤j:=by rw [Cl _ hw]; simp; omega
   rw [List.getElem?_eq_none h1,List.getElem?_eq_none h2]
theorem NF (w:World) (g m:Nat) (dk:Array EV) (os:Array Obj):w.grownBy (sortWorldK EV.enc 10 w g 0 m dk os) (some g):=by
 refine ⟨rfl,rfl,rfl,by unfold sortWorldK putRowK; simp,fun k hk hne => ?_⟩;unfold sortWorldK putRowK;rw [heap_grow_old _ _ (by simpa using hk)];have:g≠k:=by rintro rfl; exact hne rfl
 simp [putRow,mapBlock,Array.getElem?_modify,this]
theorem Q3 {e:TypeId} {dk:Array EV} (os:Array Obj) (h:A3 w base e 10 (some ⟨g,0,none⟩) n c rows) (hd:dk.size=n) (hU:NoU w g) :
 A3 (sortWorldK EV.enc 10 w g 0 m dk os) base e 10 (some ⟨g,0,none⟩) n c (dk.toList.map EV.enc)∧NoU (sortWorldK EV.enc 10 w g 0 m dk os) g:=by
 rcases h.2.2 with ⟨hv,_⟩|⟨g1,cap1,cur1,hv,hb,hh,h1,h2,h3,h4⟩
 · simp at hv
 simp only [Value.slice.injEq,Option.some.injEq,Addr.mk.injEq,and_true,true_and] at hv;obtain ⟨rfl,rfl⟩:=hv;have hlt:g<w.heap.size:=by
  rcases Nat.lt_or_ge g w.heap.size with h|h
  · exact h
  · simp [Array.getElem?_eq_none h] at hh
 have hfs:(flatK EV.enc 10 dk).size=n*10:=by rw [size_flatK,hd]
 have hblk:(sortWorldK EV.enc 10 w g 0 m dk os).heap[g]?=some (.cells (putCells id 0 (flatK EV.enc 10 dk) cur1) e (0,0)):=by
  unfold sortWorldK putRowK;rw [heap_grow_old _ _ (by simpa using hlt)];simp [putRow,mapBlock,Array.getElem?_modify,hh,onCells]
 have hget:∀ j,(putCells id 0 (flatK EV.enc 10 dk) cur1)[j]?=if j<cur1.size then (if j<n*10 then (flatK EV.enc 10 dk)[j]? else cur1[j]?) else none:=by
  intro j;unfold putCells;rw [Array.getElem?_mapIdx];by_cases hj:j<cur1.size
  · rw [if_pos hj,Array.getElem?_eq_getElem hj];simp only [Option.map_some,Nat.zero_le,true_and,Nat.zero_add,hfs,id,Nat.sub_zero];by_cases hjn:j<n*10
    · rw [if_pos hjn,if_pos hjn,Array.getElem?_eq_getElem (by rw [hfs]; exact hjn)];simp [hfs,hjn]
    · rw [if_neg hjn,if_neg hjn]
  · rw [if_neg hj,Array.getElem?_eq_none (by omega)];rfl
 have hsz:n*10≤cur1.size:=by rw [h3]; exact Nat.mul_le_mul_right 10 h1
 refine ⟨⟨?_, ?_,Or.inr ⟨g,c,putCells id 0 (flatK EV.enc 10 dk) cur1,rfl,hb,hblk,h1,h2,by simp [putCells,h3], ?_⟩⟩, ?_⟩
 · intro r hr;obtain ⟨v,_,rfl⟩:=List.mem_map.1 hr;exact v.len
 · rw [←EN]; simp [hfs]
 · rw [←EN];refine List.ext_getElem? fun j => ?_;rw [List.getElem?_take];by_cases hj:j<n*10
   · rw [if_pos hj];have:=hget j;rw [if_pos (by omega),if_pos hj] at this;simpa using this
   · rw [if_neg hj,List.getElem?_eq_none (by simp [hfs]; omega)]
 · intro j i he;rw [cell_of_row _ g _ _ e (0,0) hblk,hget j] at he;split at he
   · split at he
     · have h5:(flatK EV.enc 10 dk).toList[j]?=some (.int .u64 i):=by simpa using he
       rw [EN] at h5;obtain ⟨r,hr,hu⟩:=List.mem_flatten.1 (List.mem_of_getElem? h5);obtain ⟨v,_,rfl⟩:=List.mem_map.1 hr;exact v.nu _ hu i rfl
     · refine hU j i ?_;rw [cell_of_row w g _ cur1 e (0,0) hh];exact he
   · cases he
def Ij (l:List Pl.Tm):Prop:=∀ t∈l,t.1.length=6∧∀ x∈t.1,0≤x∧x≤1099511627776
theorem G6 {l:List Pl.Tm} (hO:Fp w base a n c l) (hb:Ij l) (hn:n≤1000000) :
 Calls prog 81 #[.slice a n c, .func (.func 82) #[] #[]] w fun e w'=>e = .returned (.tuple #[])∧∃ l',l'.Perm l∧Pl.desc l'∧Fp w' base a n c l'∧w.grownBy w' (blk a):=by
 rcases Nat.eq_zero_or_pos n with h0|h0
 · subst h0;refine (AnyF.slices_SortFunc_none UI a c _ w).mono ?_;rintro e w' ⟨rfl,rfl⟩;refine ⟨rfl,l,List.Perm.refl _, ?_,hO,World.grownBy.refl _ _⟩;have:l=[]:=List.eq_nil_of_length_eq_zero hO.len;subst this;exact List.Pairwise.nil
 · obtain ⟨rows,h1,h2,h3,h4⟩:=hO;obtain ⟨g,rfl,hg1,hg2⟩:=h1.place h0;have hU:=h2 g rfl;have hsl:=h1.slk (by omega);have hex:∀ i,∃ v:EV,i<n→v.enc=rows.getD i []∧v.tm=l.getD i ([],0):=by
    intro i;by_cases hi:i<n
    · obtain ⟨s,a,n',c',b,m,d,e1,e2,e3⟩:=h4 i hi;have hm:=hb (l.getD i ([],0)) (by simp [show i<l.length by omega]);exact ⟨⟨(rows.getD i [],l.getD i ([],0)),⟨s,a,n',c',b,m,d,e1⟩,hm.1,hm.2⟩,fun _=>⟨rfl,rfl⟩⟩
    · exact ⟨default,fun h=>absurd h hi⟩
   obtain ⟨f,hf⟩:=Classical.axiomOfChoice hex
   let d:Array EV:=((List.range n).map f).toArray
   have hds:d.size=n:=by simp [d]
   have hdi:∀ i,i<n→d[i]! = f i:=fun i hi=>by simp [d,hi]
   have hH:HoldsK EV.enc 10 w g 0 d:=by
    intro j hj;rw [size_flatK,hds] at hj;rw [Nat.zero_add,get_flatK _ _ _ _ (by rw [hds]; exact hj)];obtain ⟨b',off,e1,hc⟩:=hsl.rd h0;simp only [Option.some.injEq,Addr.mk.injEq,and_true] at e1;obtain ⟨rfl,rfl⟩:=e1;have hjd:j/10<n:=by omega
    have hcc:=hc (j/10) hjd (j%10) (by omega);have hje:0+j/10*10+j%10=j:=by omega
    rw [hje] at hcc;refine ⟨?_, ?_⟩
    · rw [hcc,hdi _ hjd,(hf _ hjd).1];have hrl:=hsl.row hjd;have h9:j%10<(rows.getD (j/10) []).length:=by rw [hrl]; omega
      simp only [id,Option.some.injEq];rw [gqq,List.getElem?_eq_getElem h9,getElem!_pos (rows.getD (j/10) []) (j%10) h9];rfl
    · rcases h1.2.2 with ⟨hv,_⟩|⟨g1,cap1,cur1,hv,hb1,hh,_⟩
      · simp at hv
      simp only [Value.slice.injEq,Option.some.injEq,Addr.mk.injEq,and_true,true_and] at hv;rw [hv.1];simp [World.frozen?,hh]
   have eg:∀ args w,(callFunc 82 args).run prog w = .ok (.enter 82 args) w:=enters_of func82 (by kernel_rfl) rfl;have hcmp:CmpLays prog 82 #[] EV.enc 10 cfE g 0 d.size w:=fun m os dk _ x y=>Q2 x y _;have h:=AnyQ.slices_SortFunc UI 10 (fun w=>Tryz.isAgg111 w) (fun w=>Tryz.sizeOf111 w) EV.enc EV.len EV.one cfE Ws 82 #[] g 0 c d w eg hcmp hH hg2 (by omega);rw [hds] at h;refine h.mono ?_;rintro e w' ⟨rfl,d',q,os,hp,hso,rfl⟩;obtain ⟨p1,_,p3⟩:=hp;have hd':d'.size=n:=by rw [p1,hds]
   have hperm:d'.toList.Perm d.toList:=by
    rw [Array.extract_eq_self_of_le (by omega),Array.extract_eq_self_of_le (by omega)] at p3;exact p3
   have hgr:=NF w g q d' os;obtain ⟨o1,o2⟩:=Q3 (m:=q) (dk:=d') os h1 hd' hU;have htm:d.toList.map EV.tm=l:=by
    apply List.ext_getElem
    · simp [d,h3]
    · intro i i1 i2;have hi:i<n:=by omega
      simp only [d,List.map_map,List.getElem_map,List.getElem_range,Function.comp];rw [(hf i hi).2];simp [i2]
   refine ⟨rfl,d'.toList.map EV.tm, ?_, ?_,⟨d'.toList.map EV.enc,o1,fun g' hg' => ?_,by simp [hd'],fun i hi => ?_⟩,hgr⟩
   · rw [←htm];exact hperm.map _
   · unfold Pl.desc;rw [List.pairwise_map];rw [List.pairwise_iff_getElem];intro i j hi hj hij;have hi':i<d'.size:=by simpa using hi
     have hj':j<d'.size:=by simpa using hj
     have h5:=Ii (hso i j (Nat.zero_le _) hij (by omega));unfold cfE at h5;rw [getElem!_pos d' i hi',getElem!_pos d' j hj'] at h5;have h6:=Pl.ordE_anti d'[i].tm.1 d'[j].tm.1;simp only [Array.getElem_toList];omega
   · have:g=g':=by simpa [blk] using hg'
     subst this;exact o2
   · have hi':i<d'.toList.length:=by simpa [hd'] using hi
     obtain ⟨k,hk,e⟩:=List.mem_iff_getElem.1 (hperm.mem_iff.1 (List.getElem_mem hi'));have hkn:k<n:=by simpa [d] using hk
     have e1:d'.toList[i]=f k:=by rw [←e]; simp [d]
     have h7:=h4 k hkn;rw [←(hf k hkn).1,←(hf k hkn).2,←e1] at h7;have e2:(d'.toList.map EV.enc).getD i []=d'.toList[i].enc:=by rw [gqq,List.getElem?_map,List.getElem?_eq_getElem hi']; rfl
     have e3:(d'.toList.map EV.tm).getD i ([],0)=d'.toList[i].tm:=by rw [gqq,List.getElem?_map,List.getElem?_eq_getElem hi']; rfl
     rw [e2,e3];exact h7.keptU hU hgr
end Go.Proofs.YtlpgonpfjbhmfaaGreatDoor
namespace Go.Proofs.YtlpgonpfjbhmfaaGreatDoor
open Tryz Go Go.RowKit
variable {f:Act} {ops:Array Oper} {Q:Exit→Act→World→Prop} {vars:Int} {rows:List (List Value)} {xs:List Int} {rest:List Oper} {cs cs' cur:List Value} {b b' base c g n:Nat} {o:Oper} {d s:Operand} {A a:Option Addr} {q:Rat} {dT e e' sT t ty:TypeId} {z:Value} {w w0:World}
section
variable {P:Program} {w:World}
theorem T5 {bytes dl dc m:Nat} (ht:P.underlying dT=some (.slice e)) (hinfo:Bh P e z bytes)
 (h:Arr w g t cur) (hl:cur.length=dl) (hs:Sl w A m c cs) (hm:dl≤m) (h1:∀ v∈cs,v.oneCell'=true) :
 ∃ w',(Builtin.copy_ #[dT,sT] ty #[.slice (some ⟨g,0,none⟩) dl dc, .slice A m c]).run P w = .ok (goInt dl) w'∧Arr w' g t (cs.take dl)∧w.grownBy w' (some g):=by
 obtain ⟨i,hi,hz,hsize,hby⟩:=info_parts hinfo;have hsz:(P.info? e).map (·.size)=some 1:=by simp [hi,hsize]
 have hcl:=hs.len;by_cases h0:dl=0
 · subst h0;have hc0:cur=[]:=List.eq_nil_of_length_eq_zero hl;refine ⟨w,run_copy_none w dT sT ty e _ _ 0 dc m c ht hsz (by simp), ?_,⟨rfl,rfl,rfl,lrf _,fun _ _ _=>rfl⟩⟩;rw [List.take_zero,←hc0];exact h
 · obtain ⟨b,off,ha,hc⟩:=hs.rd (by omega);subst ha;have hmin:m.min dl=dl:=Nat.min_eq_right hm
   have:=run_copy_row (P:=P) w dT sT ty e g 0 dl dc ⟨b,off,none⟩ m c cur.toArray t (cs.take dl) ht hsz h (by rw [hmin,List.length_take,hcl]; exact Nat.min_eq_left hm) (by
    intro j v hv;have hj:j<(cs.take dl).length:=by
     rcases Nat.lt_or_ge j (cs.take dl).length with h|h
     · exact h
     · simp [List.getElem?_eq_none h] at hv
    rw [List.length_take] at hj;have h2:=hc j (by omega);rw [List.getElem?_take_of_lt (by omega)] at hv;rw [gqq,hv] at h2;rw [←Option.getD_some (a:=v) (b:=undef),←h2.symm.symm];unfold Addr.add
    by_cases h3:j=0 <;> simp [h3] at h2 ⊢ <;> exact h2) (by simp [hl]; omega) (fun v hv=>h1 v (List.mem_of_mem_take hv))
   have hll:(cs.take dl).length=dl:=by rw [List.length_take,hcl]; exact Nat.min_eq_left hm
   refine ⟨_,by rw [this,hll], ?_,BJ w g _⟩;have h9:=C4 h (cur.take 0 ++ cs.take dl ++ cur.drop (0+(cs.take dl).length));rw [hll] at h9;have e9:cur.take 0 ++ cs.take dl ++ cur.drop (0+dl)=cs.take dl:=by
    rw [List.take_zero,List.nil_append,Nat.zero_add,List.drop_of_length_le (by omega),List.append_nil]
   rw [e9] at h9;have e8:cur.toArray.toList.take 0 ++ cs.take dl ++ cur.toArray.toList.drop (0+dl)=cs.take dl:=e9;rw [e8];exact h9
theorem Vh (hgd:o.guard=none)
 (ho:o.op = .call { callee := .builtin .copy,args:=#[d,s],argTypes:=#[dT,sT] })
 {e:TypeId} {z:Value} {bytes g dl dc m c:Nat} {A:Option Addr} {t:TypeId} {cur cs:List Value} (ht:P.underlying dT=some (.slice e)) (hinfo:Bh P e z bytes)
 (hd:f.eval d = .slice (some ⟨g,0,none⟩) dl dc) (hsv:f.eval s = .slice A m c)
 (h:Arr w g t cur) (hl:cur.length=dl) (hs:Sl w A m c cs) (hm:dl≤m) (h1:∀ v∈cs,v.oneCell'=true)
 (hK:∀ w',Arr w' g t (cs.take dl)→w.grownBy w' (some g)→wpList P ops Q rest (f.put o.dst (goInt dl)) w'):wpList P ops Q (o :: rest) f w:=by
 refine wpList_plain hgd fun K hK' => ?_;obtain ⟨w',hrun,h2,h3⟩:=T5 (P:=P) (ty:=o.type) (sT:=sT) (dc:=dc) ht hinfo h hl hs hm h1;unfold Oper.wp execOp;simp only [ho,resolve,invoke,builtin,Sem.run_bind,Sem.run_pure,Result.andThen_ok,List.map_toArray,List.map_cons,List.map_nil,hd,hsv,hrun,Oper.upon];exact hK' _ _ (hK w' h2 h3)
end
def T6 (w:World) (g:Nat) (xs:List Int):Prop:=Arr w g 3 (xs.map (Value.int .i64))
theorem T6.own (h:T6 w g xs) (hb:base≤g) (hm:xs.length≤maxLen):Own w base 3 (some ⟨g,0,none⟩) xs.length xs.length (xs.map (Value.int .i64)):=by
 refine ⟨by simp,Or.inr ⟨g,xs.length,(xs.map (Value.int .i64)).toArray,rfl,hb,h,lrf _,hm,by simp, ?_⟩⟩;rw [Nat.mul_one];exact List.take_of_length_le (by simp)
theorem Fs {p:Nat} (h:Own w base e a n c cs) (hA:Arr w p t cs') (ht:t≠e):blk a≠some p:=by
 rcases h.2 with ⟨hv,_⟩|⟨g,cap,cur,hv,_,hh,_⟩
 · simp only [Value.slice.injEq] at hv;rw [hv.1];simp [blk]
 · simp only [Value.slice.injEq] at hv;rw [hv.1];intro he;have hgp:g=p:=by simpa [blk] using he
   subst hgp;unfold Arr at hA;rw [hh] at hA;simp only [Option.some.injEq,Obj.cells.injEq] at hA;exact ht hA.2.1.symm
theorem FP:El prog 60 (tmL ⟨#[]⟩ none 0 0) 2 40:=⟨by kernel_rfl,rfl,by omega⟩
def K3 (w:World) (base:Nat) (row:List Value) (t:Tx):Prop:=∃ s a n c,row=tmL s a n c∧Am s=t.1∧Own w base 3 a n c (t.2.map (Value.int .i64))
def TmO (w:World) (base:Nat) (a:Option Addr) (n c:Nat) (ts:List Tx):Prop:=∃ rows,A3 w base 60 2 a n c rows∧ts.length=n∧∀ i,i<n→K3 w base (rows.getD i []) (ts.getD i tm0)
theorem K3.ext {w w':World} {base:Nat} {row:List Value} {t:Tx} (h:K3 w base row t) (e:Ext w w'):K3 w' base row t:=by
 obtain ⟨s,a,n,c,h1,h2,h3⟩:=h;exact ⟨s,a,n,c,h1,h2,h3.ext e⟩
theorem TmO.ext {w w':World} {base:Nat} {a:Option Addr} {n c:Nat} {ts:List Tx} (h:TmO w base a n c ts) (e:Ext w w'):TmO w' base a n c ts:=by
 obtain ⟨rows,h1,h2,h3⟩:=h;exact ⟨rows,h1.ext e,h2,fun i hi=>(h3 i hi).ext e⟩
theorem TmO.sl {w:World} {base:Nat} {a:Option Addr} {n c:Nat} {ts:List Tx} (h:TmO w base a n c ts):CJ w a n c ts:=by
 obtain ⟨rows,h1,h2,h3⟩:=h;refine ⟨rows,h1.slk (by omega),h2,fun i hi => ?_⟩;obtain ⟨s,a',n',c',e1,e2,e3⟩:=h3 i hi;exact ⟨s,a',n',c',e1,e2,e3.sl⟩
theorem TmO.nil (w:World) (base:Nat):TmO w base none 0 0 []:=⟨[],A3.nil _ _ _ _,rfl,fun i hi=>absurd hi (by omega)⟩
theorem TmO.mono {w:World} {base base':Nat} {a:Option Addr} {n c:Nat} {ts:List Tx} (h:TmO w base a n c ts) (hb:base'≤base):TmO w base' a n c ts:=by
 obtain ⟨rows,h1,h2,h3⟩:=h;refine ⟨rows,h1.mono hb,h2,fun i hi => ?_⟩;obtain ⟨s,a',n',c',e1,e2,e3⟩:=h3 i hi;exact ⟨s,a',n',c',e1,e2,e3.mono hb⟩
theorem Dn {k n' c':Nat} (h:Own w b e a n c cs) (h':A3 w b' e' k (some ⟨g,0,none⟩) n' c' rows) (ht:e≠e'):blk a≠some g:=by
 rcases h'.2.2 with ⟨hv,_⟩|⟨g2,cap,cur,hv,_,hh,_⟩
 · simp at hv
 simp only [Value.slice.injEq,Option.some.injEq,Addr.mk.injEq,and_true,true_and] at hv;rcases h.2 with ⟨hv1,_⟩|⟨g1,cap1,cur1,hv1,_,hh1,_⟩
 · simp only [Value.slice.injEq] at hv1;rw [hv1.1]; simp [blk]
 · simp only [Value.slice.injEq] at hv1;rw [hv1.1];intro he;have hgg:g1=g:=by simpa [blk] using he
   rw [hgg] at hh1;rw [hv.1] at hh1;rw [hh] at hh1;simp only [Option.some.injEq,Obj.cells.injEq] at hh1;exact ht hh1.2.1.symm
def EZ (q:Rat):Prop:=∀ (w:World) (v:Value),A2 w→BB w v q→Calls prog 54 #[v] w fun e w'=>e = .returned (.string ⟨(txt q).toArray⟩)∧Ext w w'
theorem Lt (hb:q.num.natAbs<P2 1920) (hd:q.den<P2 1920):EZ q:=fun _ _ hT h=>Gp hT h hb hd
def wrT (vars:Nat) (l:List Pl.Tm):List Tx:=l.map (fun t=>(txt t.2,t.1.take vars))
def Kb (vars:Int) (a:Option Addr) (n c:Nat):Value := .agg #[.int .i64 vars, .slice a n c]
def Gs (w0:World) (vars:Int) (ts:List Tx) (err:Int) (e:Ending) (w':World):Prop:=∃ a n c,e = .returned (.tuple #[Kb vars a n c, .int .i64 err])∧Ext w0 w'∧TmO w' w0.heap.size a n c ts
def AZ (vars:Int) (a:Option Addr) (n c:Nat):List Value:=[.int .i64 vars, .slice a n c]
theorem Bn (vars:Int) (a:Option Addr) (n c:Nat):∀ v∈AZ vars a n c,v.oneCell'=true:=by
 intro v hv;simp only [AZ,List.mem_cons,List.not_mem_nil,or_false] at hv;rcases hv with rfl|rfl <;> rfl
def okW (l:List Pl.Tm):Prop:=l.length≤4096∧∀ t r,l=t :: r→Co t.1=true
def PX (w0:World) (vars:Nat) (l:List Pl.Tm) (e:Ending) (w':World):Prop:=∃ l',l'.Perm l∧((Pl.desc l'∧okW l'∧Gs w0 vars (wrT vars l') 0 e w')∨((4096<l.length∨(Pl.desc l'∧¬ okW l'))∧Gs w0 0 [] 2 e w'))
theorem OX {vars:Nat} {l:List Pl.Tm} (hT0:A2 w0) (hE0:Ext w0 w) (hO:Fp w w0.heap.size a n c l) (hv:vars≤6) (hb:Ij l) (hst:∀ t∈l,EZ t.2) (hn:n≤1000000) :
 Calls prog 45 #[.int .i64 vars, .slice a n c] w (PX w0 vars l):=by
 have hso:=fun (wx:World) (hC:Ext w wx)=>qh (G6 (hO.ext hC) hb hn);have HST:=qh hst;have HLN:=qh hO.len;have HLT:=qh (fun g hg=>(by obtain ⟨rows,h1,_⟩:=hO; exact h1.lt hg:w0.heap.size≤g∧g<w.heap.size):∀ g,blk a=some g→w0.heap.size≤g∧g<w.heap.size);have hso0:=G6 hO hb hn;have hTw:A2 w0:=hT0;have hl0:=hO.len
 go_enter func45,ntmps45
 go_upto_region 1 with (fail)
 refine Bq ?_;intro w1 hE1 hB1 hz1;have hR:Arr w1 w.heap.size 25 (AZ 0 none 0 0):=hB1;have hso1:=hso w1 hE1;have h01:=hE0.trans hE1;have hpz:(AZ 0 none 0 0).toArray=#[.int .i64 0, .slice none 0 0]:=rfl;clear hB1 hz1 hso hso0 hst hO;by_cases hbig:4096<n
 · go_wp2_with (refine Aa (vs:=AZ 0 none 0 0) rfl rfl rfl rfl rfl AK hR rfl (Bn _ _ _ _) ?_; intro w9 hB9 hg9)
   refine bodyPost_ret (AH rfl AK rfl rfl hB9) rfl ?_;exact ⟨l,List.Perm.refl _,Or.inr ⟨Or.inl (by have:=HLN.out; omega),none,0,0,rfl,h01.grownR hg9 hE0.size,TmO.nil _ _⟩⟩
 · go_wp2_with fail
   refine hso1.out.mono ?_;rintro e w2 ⟨rfl,l',hperm,hdesc,hO2,hg2⟩;have HP:=qh (And.intro hperm hdesc);have hR2:Arr w2 w.heap.size 25 (AZ 0 none 0 0):=hR.kept hg2 (fun he=>by have:=(HLT.out _ he.symm).2; omega);have h02:Ext w0 w2:=h01.grown hg2 (fun k hk=>(HLT.out k hk).1);have hsz2:w.heap.size<w2.heap.size:=hR2.lt;have hl2:=hO2.len;have HST2:Hid (∀ t∈l',EZ t.2):=qh (fun t ht=>HST.out t (hperm.mem_iff.1 ht));clear hperm hdesc hso1 hg2 hR hE1;have hsz0:=hE0.size;have key:n=0∨(∃ t r,l'=t :: r∧Co t.1=true)∨(∃ t r,l'=t :: r∧Co t.1=false):=by
    rcases Nat.eq_zero_or_pos n with h|h
    · exact Or.inl h
    · right;cases l' with
      | nil=>simp at hl2; omega
      | cons t r=>cases hvs:Co t.1 with
       | true=>exact Or.inl ⟨t,r,rfl,hvs⟩
       | false=>exact Or.inr ⟨t,r,rfl,hvs⟩
   have hokN:n=0→okW l':=fun h=>⟨by omega,fun t r e=>by rw [e] at hl2; simp at hl2; omega⟩;have hmv:0<n→∃ g,a=some ⟨g,0,none⟩∧∀ t r,l'=t :: r→∀ wx,Ext w2 wx→Hid (Calls prog 80 #[.slice (some ⟨g,0,none⟩) 6 6] wx fun e w'=>e = .returned (.bool (Co t.1))∧Qt wx w'):=by
    intro h0;obtain ⟨rows,h1,h2,h3,h4⟩:=hO2;obtain ⟨g,rfl,hg1,hg2⟩:=h1.place h0;refine ⟨g,rfl,fun t r el wx hC=>qh ?_⟩;obtain ⟨s,a',n',c',b,m,d,e1,e2,e3⟩:=h4 0 h0;have hsl:=h1.slk (by omega);obtain ⟨b',off,e4,hc⟩:=hsl.rd h0;simp only [Option.some.injEq,Addr.mk.injEq,and_true] at e4;obtain ⟨rfl,rfl⟩:=e4;rw [el] at e1 e2;have hsi:SlI w2 (some ⟨g,0,none⟩) 6 6 t.1:=by
     refine ⟨by simpa using e2,lrf _,by unfold maxLen; omega,fun _=>⟨g,0,rfl,fun i hi => ?_⟩⟩;have h5:=hc 0 h0 i (by omega);rw [e1] at h5;rw [Nat.zero_mul] at h5;rw [h5];have:((t :: r).getD 0 ([],0))=t:=rfl;rw [this] at e2 ⊢;have h1:(At t.1 s a' n' c' b m d).getD i undef=(t.1.map (Value.int .i64)).getD i undef:=by
      unfold At;rw [gqq,List.getElem?_append_left (by simp [e2]; omega),←gqq]
     rw [h1]
    exact (EJ (hsi.ext hC)).mono fun _ _ h=>⟨h.1,h.2 ▸ Qt.refl _⟩
   rcases key with h0|⟨t,r,el,hvt⟩|⟨t,r,el,hvt⟩
   · have hok:=hokN h0;have HOK:=qh hok;clear hok hokN hmv;have hn0:¬ ((0:Int)<(n:Int)):=by omega
     clear h0;have hY:=fun wx:World=>Arr.new wx 25 (AZ 0 none 0 0)
     go_upto_region 7 with (first
      | (refine Fm rfl rfl (by kernel_rfl) FP rfl rfl (by omega) (by unfold maxLen; omega) ?_; intro w4 hO4 hE4)
      | (refine Aa (vs:=AZ vars (some ⟨w2.heap.size,0,none⟩) n n) rfl rfl rfl rfl rfl AK (hY _) rfl (Bn _ _ _ _) ?_; intro w5 hB5 hg5))
     have hE45:Ext w4 w5:=((Ext.refl w4).alloc _).grownR hg5 (lrf _);have hE25:=hE4.trans hE45;have hO5:A3 w5 w0.heap.size 60 2 (some ⟨w2.heap.size,0,none⟩) n n (List.replicate n (tmL ⟨#[]⟩ none 0 0)):=(hO4.ext hE45).mono h02.size;have hPG:w4.heap.size≠w2.heap.size:=by have:=(hO4.lt (g:=w2.heap.size) rfl).2; omega
     obtain ⟨PB,hPB⟩:∃ x,w4.heap.size=x:=⟨_,rfl⟩;obtain ⟨G,hG⟩:∃ x,w2.heap.size=x:=⟨_,rfl⟩;rw [hPB] at hB5 hPG;rw [hG] at hB5 hPG hO5;rw [hPB];clear hY hO4 hE4 hE45 hg5;obtain ⟨rows,hK,hU,hkl,hkr⟩:=hO2;have HKR:=qh hkr;have hKs:=hK.slk (by omega);clear hkr hU hK;go_wp2
     go_loopw [35] (fun iv wr=>∃ (k:Nat) (rs:List (List Value)),iv = .int .i64 k∧k≤n∧Ext w2 wr∧A3 wr w0.heap.size 60 2 (some ⟨G,0,none⟩) n n rs∧Arr wr PB 25 (AZ vars (some ⟨G,0,none⟩) n n)∧Hid (∀ i,i<k→K3 wr w0.heap.size (rs.getD i []) ((wrT vars l').getD i tm0))) (fun iv _=>n-(intOf iv).toNat)
     case atStart=>exact ⟨0,_,rfl,Nat.zero_le _,hE25,hO5,hB5,qh (fun i hi=>absurd hi (by omega))⟩
     case round =>
      clear hO5 hB5 hE25;obtain ⟨k,rs,rfl,hk,hE,hO,hP,HC⟩:=hrel;by_cases hlt:k<n
      · exfalso; omega
      · have hkn:k=n:=by omega
        subst hkn;have q0:=hP.c 0 rfl;have q1:=hP.c 1 rfl;have hR9:=hR2.ext hE;have hpl:(AZ vars (some ⟨G,0,none⟩) k k).toArray=#[.int .i64 vars, .slice (some ⟨G,0,none⟩) k k]:=rfl
        go_wp2_with (refine Aa (vs:=AZ vars (some ⟨G,0,none⟩) k k) rfl rfl rfl rfl rfl AK hR9 rfl (Bn _ _ _ _) ?_; intro w9 hB9 hg9)
        refine bodyPost_ret (AH rfl AK rfl rfl hB9) rfl ?_;have hRG:w.heap.size≠G:=by omega
        refine ⟨l',HP.out.1,Or.inl ⟨HP.out.2,HOK.out,_,k,k,rfl,(h02.trans hE).grownR hg9 hsz0,rs,hO.kept hg9 (Or.inr (by simpa [blk] using fun h=>hRG h.symm)),by simp [wrT,hl2],fun i hi => ?_⟩⟩;obtain ⟨s9,a9,n9,c9,e1,e2,e3⟩:=HC.out i hi;exact ⟨s9,a9,n9,c9,e1,e2,e3.kept hg9 (Or.inr (Fs e3 hR9 (by decide)))⟩
   · have hn1:0<n:=by rw [←hl2,el]; simp
     obtain ⟨g,rfl,hmv'⟩:=hmv hn1;have hmv2:=hmv' t r el;clear hmv;have HOK:Hid (okW l'):=qh ⟨by omega,fun t' r' e=>by rw [el] at e; cases e; exact hvt⟩;have hn0:(0:Int)<(n:Int):=by omega
     rw [hvt] at hmv2;clear hmv' hokN hvt el
     go_wp2_with fail
     refine (hmv2 _ (Ext.refl _)).out.mono ?_;rintro e w3 ⟨rfl,hQ3⟩;have hO2:=hO2.ext hQ3.ext;have hR2:=hR2.ext hQ3.ext;have h02:=h02.trans hQ3.ext;have hsz2:w.heap.size<w3.heap.size:=hR2.lt;clear hmv2 hQ3;generalize (some (⟨g,0,none⟩:Addr))=A at *
     have hY:=fun wx:World=>Arr.new wx 25 (AZ 0 none 0 0)
     go_upto_region 7 with (first
      | (refine Fm rfl rfl (by kernel_rfl) FP rfl rfl (by omega) (by unfold maxLen; omega) ?_; intro w4 hO4 hE4)
      | (refine Aa (vs:=AZ vars (some ⟨w3.heap.size,0,none⟩) n n) rfl rfl rfl rfl rfl AK (hY _) rfl (Bn _ _ _ _) ?_; intro w5 hB5 hg5))
     have hE45:Ext w4 w5:=((Ext.refl w4).alloc _).grownR hg5 (lrf _);have hE25:=hE4.trans hE45;have hO5:A3 w5 w0.heap.size 60 2 (some ⟨w3.heap.size,0,none⟩) n n (List.replicate n (tmL ⟨#[]⟩ none 0 0)):=(hO4.ext hE45).mono h02.size;have hPG:w4.heap.size≠w3.heap.size:=by have:=(hO4.lt (g:=w3.heap.size) rfl).2; omega
     obtain ⟨PB,hPB⟩:∃ x,w4.heap.size=x:=⟨_,rfl⟩;obtain ⟨G,hG⟩:∃ x,w3.heap.size=x:=⟨_,rfl⟩;rw [hPB] at hB5 hPG;rw [hG] at hB5 hPG hO5;rw [hPB];clear hY hO4 hE4 hE45 hg5;obtain ⟨rows,hK,hU,hkl,hkr⟩:=hO2;have HKR:=qh hkr;have hKs:=hK.slk (by omega);clear hkr hU hK;go_wp2
     go_loopw [35] (fun iv wr=>∃ (k:Nat) (rs:List (List Value)),iv = .int .i64 k∧k≤n∧Ext w3 wr∧A3 wr w0.heap.size 60 2 (some ⟨G,0,none⟩) n n rs∧Arr wr PB 25 (AZ vars (some ⟨G,0,none⟩) n n)∧Hid (∀ i,i<k→K3 wr w0.heap.size (rs.getD i []) ((wrT vars l').getD i tm0))) (fun iv _=>n-(intOf iv).toNat)
     case atStart=>exact ⟨0,_,rfl,Nat.zero_le _,hE25,hO5,hB5,qh (fun i hi=>absurd hi (by omega))⟩
     case round =>
      clear hO5 hB5 hE25;obtain ⟨k,rs,rfl,hk,hE,hO,hP,HC⟩:=hrel;by_cases hlt:k<n
      · have hSw:=hKs.ext hE;obtain ⟨bb,off,ha,_⟩:=hSw.rd (by omega)
        first
         | subst ha
         | (simp only [Option.some.injEq,Addr.mk.injEq,and_true] at ha; obtain ⟨rfl,rfl⟩:=ha)
        obtain ⟨sx,ax,nx,cx,bx,mx,dx,hrow,h6,hrc⟩:=HKR.out k hlt;have HM:Hid ((wrT vars l').getD k tm0=(txt (l'.getD k ([],0)).2,(l'.getD k ([],0)).1.take vars)):=qh (by simp [wrT,hl2,hlt]);have HSK:Hid (EZ (l'.getD k ([],0)).2):=qh (HST2.out _ (by simp [hl2,hlt]));generalize l'.getD k ([],0)=t at *
        obtain ⟨te,tq⟩:=t;obtain ⟨x0,x1,x2,x3,x4,x5,h6e⟩:=Dr h6;simp only at h6e hrow HM hrc HSK;subst h6e;have hY:=Arr.new wr 111 (At [0,0,0,0,0,0] false none 0 0 none 0 0)
        go_upto_region 10 with (first
         | (refine CZ rfl rfl AA rfl hSw hlt ?_; rw [hrow])
         | (refine Aa (vs:=(At [x0,x1,x2,x3,x4,x5] sx ax nx cx bx mx dx)) rfl rfl rfl rfl rfl AA hY rfl Bk ?_; intro w6 hB6 hg6))
        have hE6:Ext wr w6:=((Ext.refl wr).alloc _).grownR hg6 (lrf _);have hXlt:wr.heap.size<w6.heap.size:=hB6.lt;obtain ⟨X,hX⟩:∃ x,wr.heap.size=x:=⟨_,rfl⟩;rw [hX] at hB6;rw [hX];have hsl:=Mq hB6 rfl;clear hY hg6 hrow h6 hSw
        go_upto_region 11 with (refine Eg (n:=vars) rfl rfl underlying22 GY rfl rfl rfl (by omega) (by unfold maxLen; omega) ?_; intro w7 hO7 hE7)
        have hA7:=Own.arr hO7;have hsl7:=hsl.ext hE7;have zc:w7.cell? ⟨X,0,none⟩=some (.int .i64 x0):=(hB6.ext hE7).cell (i:=0) (by simp [At])
        go_upto_region 12 with (refine Vh (sT:=22) rfl rfl underlying22 GY rfl rfl hA7 (by simp) hsl7 hv (A6 _) ?_; intro w8 hA8 hg8)
        have hE68:Ext w6 w8:=hE7.grownR hg8 (lrf _);have hEr8:=hE6.trans hE68;have hE28:=hE.trans hEr8;have hO8:=hO.ext hEr8;have hP8:=hP.ext hEr8;have hB8:=hB6.ext hE68;have HC8:Hid (∀ i,i<k→K3 w8 w0.heap.size (rs.getD i []) ((wrT vars l').getD i tm0)):=qh fun i hi=>(HC.out i hi).ext hEr8;have hrc8:=hrc.ext hE28;have h0r:=h02.trans hE
        have HEO:Hid (Own w8 w0.heap.size 3 (some ⟨w6.heap.size,0,none⟩) vars vars (([x0,x1,x2,x3,x4,x5].take vars).map (Value.int .i64))):=qh (by
         have h1:T6 w8 w6.heap.size ([x0,x1,x2,x3,x4,x5].take vars):=by unfold T6; rw [List.map_take]; exact hA8
         have h2:=h1.own (base:=w0.heap.size) (by have:=(h0r.trans hE6).size; omega) (by unfold maxLen; rw [List.length_take]; simp; omega);have h3:([x0,x1,x2,x3,x4,x5].take vars).length=vars:=by rw [List.length_take]; simp; omega
         rw [h3] at h2
         exact h2)
        obtain ⟨E,hEE⟩:∃ x,w6.heap.size=x:=⟨_,rfl⟩;rw [hEE] at HEO ⊢;have HRL:=qh (hO8.len (by omega));have hstr:=fun (wx:World) (hC:Ext w8 wx)=>qh (HSK.out wx (.agg #[.bool sx, .slice ax nx cx, .bool false, .slice bx mx dx]) (hTw.ext ((h0r.trans hEr8).trans hC)) ⟨An sx ax nx cx false bx mx dx,rfl,hrc8.ext hC⟩);clear zc hO7 hA7 hA8 hg8 hE7 hE6 hE68 hsl hsl7 hB6 hO hP hE HC hrc hEr8;have c0:=hB8.c 0 rfl;have c1:=hB8.c 1 rfl;have c2:=hB8.c 2 rfl;have c3:=hB8.c 3 rfl;have c4:=hB8.c 4 rfl;have c5:=hB8.c 5 rfl;have c6:=hB8.c 6 rfl;have c7:=hB8.c 7 rfl;have c8:=hB8.c 8 rfl;have c9:=hB8.c 9 rfl
        have q0:=hP8.c 0 rfl;have q1:=hP8.c 1 rfl;clear hB8 hrc8;have HF1:=fun (wx:World) (hC:Ext w8 wx)=>qh (And.intro (hC.cell c0) (And.intro (hC.cell c1) (And.intro (hC.cell c2) (And.intro (hC.cell c3) (And.intro (hC.cell c4) (And.intro (hC.cell c5) (And.intro (hC.cell c6) (And.intro (hC.cell c7) (And.intro (hC.cell c8) (And.intro (hC.cell c9) (And.intro (hC.cell q0) (hC.cell q1))))))))))))
        refine Af (by kernel_rfl) (fun wx=>Ext w8 wx)
         [he (.pointer (some ⟨PB,1,none⟩)),
 he (.slice (some ⟨G,0,none⟩) n n),
 he (.int .i64 k),
 he (.pointer (some ⟨X,6,none⟩)),
 he (.agg #[.bool sx, .slice ax nx cx, .bool false, .slice bx mx dx]),
 hp (fun v wx=>v = .string ⟨(txt tq).toArray⟩),
 he (.slice (some ⟨E,0,none⟩) vars vars),
 hp (fun v wx=>v = .agg #[.string ⟨(txt tq).toArray⟩, .slice (some ⟨E,0,none⟩) vars vars])]
         (by kernel_rfl) (fun _ _ e h=>h.trans e) ((Ext.refl w8).drew) ⟨trivial,trivial,trivial,trivial,trivial,fun _ _ _ _ h=>h,trivial,fun _ _ _ _ h=>h,trivial⟩ ⟨?o0, ?o1, ?o2, ?o3, ?o4, ?o5, ?o6, ?o7,trivial⟩ ?fin
        case o0=>exact ofa (d:=1) rfl rfl (fun _ _=>id) (by kernel_rfl) rfl
        case o1=>exact ol rfl rfl (fun _ _=>id) (by kernel_rfl) (by assumption)
        case o2=>exact omv rfl rfl (fun _ _=>id)
        case o3=>exact ofa (d:=6) rfl rfl (fun _ _=>id) (by kernel_rfl) rfl
        case o4=>exact ol4 rfl rfl (fun _ _=>id) ⟨by kernel_rfl,by kernel_rfl⟩ (by assumption) (by assumption) (by assumption) (by assumption)
        case o5 =>
         refine Aj rfl fun ρ wx hC hcst hfn h => ?_;have e1:ρ (.tmp 50)=(.agg #[.bool sx, .slice ax nx cx, .bool false, .slice bx mx dx]):=h.2.1;obtain ⟨kx0,kx1,kx2,kx3,kx4,kx5,kx6,kx7,kx8,kx9,kp0,kp1⟩:=(HF1 wx hC).out;refine ⟨54,#[.agg #[.bool sx, .slice ax nx cx, .bool false, .slice bx mx dx]],by go_simp,((hstr wx hC).out).mono ?_⟩;rintro e w' ⟨rfl,hE'⟩;exact ⟨_,rfl,hE',rfl⟩
        case o6=>exact omv rfl rfl (fun _ _=>id)
        case o7 =>
         refine Bc rfl ?_;intro ρ wx hp hC h;have hcst:=hp.const;have hfn:=hp.func;obtain ⟨v0,e0,rfl⟩:=h.1;have e1:ρ (.tmp 52)=(.slice (some ⟨E,0,none⟩) vars vars):=h.2.1;obtain ⟨kx0,kx1,kx2,kx3,kx4,kx5,kx6,kx7,kx8,kx9,kp0,kp1⟩:=(HF1 wx hC).out;exact ⟨_,wx,by go_simp,Ext.refl _,rfl⟩
        case fin =>
         intro wx hC;rintro _ rfl;rintro _ rfl;change wpList _ _ _ _ _ _;simp only [List.length_cons,List.length_nil,List.drop_succ_cons,List.drop_zero,Act.put,List.setIfInBounds_toArray,List.set_cons_succ,List.set_cons_zero];have hOx:=hO8.ext hC;have hlt':(k:Int)<n:=by omega
         have hl9:(tmL ⟨(txt tq).toArray⟩ (some ⟨E,0,none⟩) vars vars).toArray=#[.string ⟨(txt tq).toArray⟩, .slice (some ⟨E,0,none⟩) vars vars]:=rfl
         go_wp2_with (refine JV (vs:=tmL ⟨(txt tq).toArray⟩ (some ⟨E,0,none⟩) vars vars) rfl rfl (by omega) Cy rfl rfl rfl hOx hlt rfl (EL _ _ _ _) ?_; intro w10 hO10 hg10)
         go_roundw
         case rel =>
          have hEx:Own wx w0.heap.size 3 (some ⟨E,0,none⟩) vars vars (([x0,x1,x2,x3,x4,x5].take vars).map (Value.int .i64)):=HEO.out.ext hC;refine ⟨k+1,_,by go_num,by omega,(hE28.trans hC).grownR hg10 (Nat.le_of_eq hG),hO10,(hP8.ext hC).kept hg10 (fun he=>hPG (by simpa using he)),qh fun i hi => ?_⟩;by_cases hik:i=k
          · subst hik;rw [HM.out,gqq,List.getElem?_set_self (by rw [HRL.out]; exact hlt)];exact ⟨_,_,vars,vars,rfl,rfl,hEx.kept hg10 (Or.inr (Dn hEx hOx (by decide)))⟩
          · rw [gqq,List.getElem?_set_ne (by omega),←gqq];obtain ⟨s9,a9,n9,c9,e1,e2,e3⟩:=(HC8.out i (by omega)).ext hC;exact ⟨s9,a9,n9,c9,e1,e2,e3.kept hg10 (Or.inr (Dn e3 hOx (by decide)))⟩
         case measure=>simp [intOf]; omega
      · have hkn:k=n:=by omega
        subst hkn;have q0:=hP.c 0 rfl;have q1:=hP.c 1 rfl;have hR9:=hR2.ext hE;have hpl:(AZ vars (some ⟨G,0,none⟩) k k).toArray=#[.int .i64 vars, .slice (some ⟨G,0,none⟩) k k]:=rfl
        go_wp2_with (refine Aa (vs:=AZ vars (some ⟨G,0,none⟩) k k) rfl rfl rfl rfl rfl AK hR9 rfl (Bn _ _ _ _) ?_; intro w9 hB9 hg9)
        refine bodyPost_ret (AH rfl AK rfl rfl hB9) rfl ?_;have hRG:w.heap.size≠G:=by omega
        refine ⟨l',HP.out.1,Or.inl ⟨HP.out.2,HOK.out,_,k,k,rfl,(h02.trans hE).grownR hg9 hsz0,rs,hO.kept hg9 (Or.inr (by simpa [blk] using fun h=>hRG h.symm)),by simp [wrT,hl2],fun i hi => ?_⟩⟩;obtain ⟨s9,a9,n9,c9,e1,e2,e3⟩:=HC.out i hi;exact ⟨s9,a9,n9,c9,e1,e2,e3.kept hg9 (Or.inr (Fs e3 hR9 (by decide)))⟩
   · have hn1:0<n:=by rw [←hl2,el]; simp
     obtain ⟨g,rfl,hmv'⟩:=hmv hn1;have hmv2:=hmv' t r el;clear hmv;have HOK:Hid (¬ okW l'):=qh fun h=>by have:=h.2 t r el; rw [hvt] at this; cases this
     have hn0:(0:Int)<(n:Int):=by omega
     rw [hvt] at hmv2;clear hmv' hokN hvt el
     go_wp2_with fail
     refine (hmv2 _ (Ext.refl _)).out.mono ?_;rintro e w3 ⟨rfl,hQ3⟩;have hR3:=hR2.ext hQ3.ext
     go_wp2_with (refine Aa (vs:=AZ 0 none 0 0) rfl rfl rfl rfl rfl AK hR3 rfl (Bn _ _ _ _) ?_; intro w9 hB9 hg9)
     refine bodyPost_ret (AH rfl AK rfl rfl hB9) rfl ?_;exact ⟨l',HP.out.1,Or.inr ⟨Or.inr ⟨HP.out.2,HOK.out⟩,none,0,0,rfl,(h02.trans hQ3.ext).grownR hg9 hsz0,TmO.nil _ _⟩⟩
section
variable {P:Program} {w:World}
end
def Q4 (l:List Pl.Tm):Int:=l.foldl (fun m t=>max m t.1.sum) (-1)
open Classical in
noncomputable def rdP (vars:Int) (ts:List Tx):Option (List Pl.Tm):=if ts.length≤4096∧∀ t r,ts=t :: r→Co t.2=true then rdWF vars ts else none
theorem Lu {ts:List Tx} (hT:A2 w) (h:CJ w a n c ts) (hs:∀ t∈ts,t.1.length≤570) :
 Calls prog 33 #[.agg #[.int .i64 vars, .slice a n c]] w (VS w (rdP vars ts)):=by
 have hlen:=h.len;have hwf:=fun (wx:World) (hC:Ext w wx) (hn:n≤4096)=>qh (Nx (vars:=vars) (hT.ext hC) (h.ext hC) hs hn);have hno:¬ n≤4096→rdP vars ts=none:=fun h=>by unfold rdP; exact if_neg (fun h'=>h (by omega))
 obtain ⟨rows,hS,_,hq⟩:=h;have hnn:=hS.le
 go_enter func33,ntmps33
 go_upto_region 1 with (fail)
 refine Bq ?_;intro w0 hE0 hB0 hz0;have p0:=hB0.c 0 rfl;have p1:=hB0.c 1 rfl;clear hB0 hz0 hs;by_cases hbig:4096<n
 · have HN:=qh (hno (by omega));go_wp2
   go_ret2
   rw [HN.out];exact ⟨none,0,0,rfl,hE0,Cx.nil _⟩
 · have hwf:=hwf w0 hE0 (by omega);clear hno
   go_wp2_with fail
   refine hwf.out.mono ?_;rintro e w1 ⟨a1,n1,c1,rfl,hE1,hL1⟩;have p1:=hE1.cell p1;have hEw:=hE0.trans hE1;cases hwq:rdWF vars ts with
   | none =>
    have HN:Hid (rdP vars ts=none):=qh (by unfold rdP; rw [hwq]; split <;> rfl);rw [hwq] at hL1;clear hwf hwq;go_wp2
    go_ret2
    rw [HN.out];exact ⟨none,0,0,rfl,hEw,Cx.nil _⟩
   | some l =>
    rw [hwq] at hL1;simp only [Option.getD_some,Option.isSome_some] at hL1 ⊢;rcases Nat.eq_zero_or_pos n with h0|h0
    · have HN:Hid (rdP vars ts=some l):=qh (by
       unfold rdP
       rw [hwq,if_pos ⟨by omega,fun t r e=>by rw [e] at hlen; simp at hlen; omega⟩])
      have hn0:¬ ((0:Int)<(n:Int)):=by omega
      clear hwf hwq;go_wp2
      go_ret2
      rw [HN.out];exact ⟨a1,n1,c1,rfl,hEw,hL1⟩
    · have hn0:(0:Int)<(n:Int):=by omega
      obtain ⟨bb,off,rfl,hc⟩:=(hS.ext hEw).rd h0;obtain ⟨s,ax,nx,cx,hrow,_,hxs⟩:=hq 0 h0;have hce:=hc 0 h0 1 (by omega);rw [hrow] at hce;have hce':w1.cell? ⟨bb,off+1,none⟩=some (.slice ax nx cx):=hce;have hce0:=hc 0 h0 0 (by omega);rw [hrow] at hce0;have hce0':w1.cell? ⟨bb,off,none⟩=some (.string s):=by simpa using hce0
      have hmv:=fun (wx:World) (hq:Ext w1 wx)=>qh (EJ ((hxs.ext hEw).ext hq));have HX:Hid (∀ t r,ts=t :: r→t.2=(ts.getD 0 tm0).2):=qh (fun t r e=>by rw [e]; rfl);generalize (ts.getD 0 tm0).2=xs at *
      cases hvx:Co xs with
      | true =>
       have HN:Hid (rdP vars ts=some l):=qh (by
        unfold rdP
        rw [hwq,if_pos ⟨by omega,fun t r e=>by rw [HX.out t r e]; exact hvx⟩])
       rw [hvx] at hmv;clear hwf hwq hvx hc hce hce0
       go_wp2_with fail
       refine (hmv _ (Ext.refl _)).out.mono ?_;rintro e w2 ⟨rfl,rfl⟩;go_wp2
       go_ret2
       rw [HN.out];exact ⟨a1,n1,c1,rfl,hEw,hL1⟩
      | false =>
       have HN:Hid (rdP vars ts=none):=qh (by
        unfold rdP;rw [if_neg];rintro ⟨_,h2⟩;cases hts:ts with
        | nil=>rw [hts] at hlen; simp at hlen; omega
        | cons t r =>
         have h3:=h2 t r hts;rw [HX.out t r hts,hvx] at h3
         cases h3)
       rw [hvx] at hmv;clear hwf hwq hvx hc hce hce0
       go_wp2_with fail
       refine (hmv _ (Ext.refl _)).out.mono ?_;rintro e w2 ⟨rfl,rfl⟩;go_wp2
       go_ret2
       rw [HN.out];exact ⟨none,0,0,rfl,hEw,Cx.nil _⟩
theorem Gt {ts:List Tx} (hT:A2 w) (h:CJ w a n c ts) (hs:∀ t∈ts,t.1.length≤570) :
 Calls prog 9 #[.agg #[.int .i64 vars, .slice a n c]] w fun e w'=>e = .returned (.bool (rdP vars ts).isSome)∧Ext w w':=by
 have hrd:=fun (wx:World) (hC:Ext w wx)=>qh (Lu (vars:=vars) (hT.ext hC) (h.ext hC) hs);obtain ⟨o,ho⟩:∃ o,rdP vars ts=o:=⟨_,rfl⟩;rw [ho] at hrd ⊢;clear ho
 go_enter func9,ntmps9
 go_upto_region 1 with (fail)
 refine Bq ?_;intro w0 hE0 hB0 hz0;have p0:=hB0.c 0 rfl;have p1:=hB0.c 1 rfl;clear hB0 hz0
 go_wp2_with fail
 refine (hrd _ hE0).out.mono ?_;rintro e w1 ⟨a1,n1,c1,rfl,hE1,_⟩;go_wp2;go_ret;exact ⟨rfl,hE0.trans hE1⟩
end Go.Proofs.YtlpgonpfjbhmfaaGreatDoor
