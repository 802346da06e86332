/- Part Rin30. -/
import Derived.Test.YtlpgonpfjbhmfaaGreatDoorRin29
import Derived.Test.YtlpgonpfjbhmfaaGreatDoorRin24
set_option maxRecDepth 100000
set_option maxHeartbeats 100000000
namespace Go.Proofs.YtlpgonpfjbhmfaaGreatDoor
open Go Go.RowKit
theorem flat_splice {k:Nat}:∀ (rows:List (List Value)),(∀ r∈rows,r.length=k)→∀ i o (vs:List Value),o+vs.length≤k→i<rows.length →
 rows.flatten.take (i*k+o) ++ vs ++ rows.flatten.drop (i*k+o+vs.length)=(rows.set i ((rows.getD i []).take o ++ vs ++ (rows.getD i []).drop (o+vs.length))).flatten
 | [],_,i,o,vs,_,hi=>by simp at hi
 | r :: rest,h,0,o,vs,hv,_=>by
  have hr:r.length=k:=h r (by simp);simp only [Nat.zero_mul,Nat.zero_add,List.flatten_cons,List.set_cons_zero,List.getD_cons_zero];rw [List.take_append_of_le_length (by omega),List.drop_append_of_le_length (by omega),←List.append_assoc]
 | r :: rest,h,i+1,o,vs,hv,hi=>by
  have hr:r.length=k:=h r (by simp);have ih:=flat_splice rest (fun x hx=>h x (by simp [hx])) i o vs hv (by simpa using hi);have e:(i+1)*k+o=k+(i*k+o):=by rw [Nat.add_mul]; omega
  have e2:k+(i*k+o)+vs.length=k+(i*k+o+vs.length):=by omega
  simp only [List.flatten_cons,List.set_cons_succ,List.getD_cons_succ,e,e2];rw [←ih,←hr,List.take_length_add_append,List.drop_length_add_append];simp
section
variable {w:World} {base:Nat} {e:TypeId} {k g n:Nat} {rows:List (List Value)}
theorem OwnK.arrK (h:OwnK w base e k (some ⟨g,0,none⟩) n n rows):Arr w g e rows.flatten:=by
 rcases h.2.2 with ⟨hv,_⟩|⟨g',cap,cur,hv,hb,hh,hnc,hm,hs,htk⟩
 · simp at hv
 simp only [Value.slice.injEq,Option.some.injEq,Addr.mk.injEq,and_true,true_and] at hv;obtain ⟨rfl,rfl⟩:=hv;have h2:cur.toList=rows.flatten:=by rw [←htk,List.take_of_length_le (by simp [hs])]
 unfold Arr;rw [hh,←h2]
theorem Arr.ownK (h:Arr w g e rows.flatten) (hw:∀ r∈rows,r.length=k) (hn:rows.length=n) (hb:base≤g) (hm:n≤maxLen):OwnK w base e k (some ⟨g,0,none⟩) n n rows:=by
 have hl:=flat_len rows hw;rw [hn] at hl;refine ⟨hw,by rw [hl],Or.inr ⟨g,n,rows.flatten.toArray,rfl,hb,h,Nat.le_refl _,hm,by simpa using hl, ?_⟩⟩;simpa using List.take_of_length_le (by rw [hl]; exact Nat.le_refl _)
end
def mkOK (vars:Int) (t:Tx):Prop:=(readQ t.1).isSome=true∧(t.2.length:Int)=vars∧validS t.2=true
def mkTm (t:Tx):Pl.Tm:=(pad6 t.2,(readQ t.1).getD 0)
def zrow:List Value:=entL ze false none 0 0 none 0 0
def RetMake (w:World) (vars:Int) (ts:List Tx) (e:Ending) (w':World):Prop :=
 (¬ (0≤vars∧vars≤6)∧RetP w 0 [] 3 e w')∨(0≤vars∧vars≤6∧¬ (∀ t∈ts,mkOK vars t)∧RetP w 0 [] 1 e w')∨(0≤vars∧vars≤6∧(∀ t∈ts,mkOK vars t)∧RetA3 w (resQ vars (ts.map mkTm)) e w')
structure SumOK (p:List Pl.Tm):Prop where
 pre:∀ a s,a ++ s=p→∀ e,Pl.RB 2400 (Pl.coef a e)
 each:∀ t∈p,Pl.RB 2400 t.2
 fits:FitsP p
theorem poly_Make {vars:Int} {A:Option Addr} {n c:Nat} {ts:List Tx} {w:World} (hT:Tabs w) (h:TmSl w A n c ts) (hs:∀ t∈ts,t.1.length≤570) (hn:n≤1000000) (hok:0≤vars→vars≤6→(∀ t∈ts,mkOK vars t)→SumOK (ts.map mkTm)) :
 Calls Tryz.prog 42 #[.int .i64 vars, .slice A n c] w (RetMake w vars ts):=by
 have hlen:=h.len;obtain ⟨rows,hS,_,hq⟩:=h;have HQ:=qh hq;have HL:=qh hlen;have HS:=qh hs;clear hq hlen hs
 go_enter Tryz.func42,Tryz.ntmps42
 go_upto_region 1 with (fail)
 refine box1 ?_;intro w0 hE0 hB0 hz0;have hR:Arr w0 w.heap.size 25 (polyL 0 none 0 0):=hB0;have hpz:(polyL 0 none 0 0).toArray=#[.int .i64 0, .slice none 0 0]:=rfl;clear hB0 hz0;by_cases hv:0≤vars∧vars≤6
 · obtain ⟨hv0,hv6⟩:=hv;have HOK:=qh (hok hv0 hv6);clear hok;obtain ⟨vn,rfl⟩:∃ k:Nat,vars=(k:Int):=⟨vars.toNat,by omega⟩;have c1:¬ ((vn:Int)<0):=by omega
   have c2:¬ ((6:Int)<(vn:Int)):=by omega
   have hnu0:nuR (List.replicate n zrow):=fun r hr u hu=>by rw [(List.mem_replicate.1 hr).2] at hu; exact entL_nu u hu
   go_upto_region 4 with (refine wl_mkK rfl rfl (by kernel_rfl) elem_entry rfl rfl (by omega) (by unfold maxLen; omega) ?_; intro w1 hO1 hE1)
   obtain ⟨G,hG⟩:∃ G,w0.heap.size=G:=⟨_,rfl⟩;rw [hG] at hO1 ⊢;go_wp2
   go_loopw [23] (fun iv wr=>∃ (k:Nat) (rs:List (List Value)),iv = .int .i64 k∧k≤n∧Ext w0 wr∧OwnK wr w0.heap.size 111 10 (some ⟨G,0,none⟩) n n rs∧nuR rs∧Hid (∀ i,i<k→mkOK vn (ts.getD i tm0)∧EntC wr (rs.getD i []) (mkTm (ts.getD i tm0)))∧Hid (∀ i,k≤i→i<n→rs.getD i []=zrow)) (fun iv _=>n-(intOf iv).toNat)
   case atStart=>exact ⟨0,_,rfl,Nat.zero_le _,hE1,by rw [hG]; exact hO1,hnu0,qh (fun i hi=>absurd hi (by omega)),qh (fun i _ hi=>by simp [List.getD_eq_getElem?_getD,hi,zrow,ze])⟩
   case round =>
    clear hO1 hE1 hnu0;obtain ⟨k,rs,rfl,hk,hE,hO,hnu,HC,HZ⟩:=hrel;have hEw:=hE0.trans hE;by_cases hlt:k<n
    · have hSw:=hS.ext hEw;obtain ⟨b,off,rfl,hcl⟩:=hSw.rd (by omega);obtain ⟨s,ax,nx,cx,hrow,hst,hxs⟩:=HQ.out k hlt;have hY:=Arr.new wr 60 (tmL ⟨#[]⟩ none 0 0);have hrow':rows.getD k []=tmL s ax nx cx:=hrow
      go_upto_region 7 with (first
       | (refine wl_ldK rfl rfl agg_Term rfl hSw hlt ?_; rw [hrow'])
       | (refine wl_stArr (vs:=tmL s ax nx cx) rfl rfl rfl rfl rfl agg_Term hY rfl (tmL_one _ _ _ _) ?_; intro w2 hB2 hg2))
      have hE2:Ext wr w2:=((Ext.refl wr).alloc _).grownR hg2 (Nat.le_refl _);have hO2:=hO.ext hE2;have HC2:Hid (∀ i,i<k→mkOK vn (ts.getD i tm0)∧EntC w2 (rs.getD i []) (mkTm (ts.getD i tm0))):=qh fun i hi=>⟨(HC.out i hi).1,(HC.out i hi).2.ext hE2⟩;have hE02:=hE.trans hE2;have hEw2:=hE0.trans hE02;have hxs2:=hxs.ext hEw2;have HMEM:Hid (ts.getD k tm0∈ts):=qh (by simp [List.getD_eq_getElem?_getD,HL.out,hlt]);have hsz:s.size≤570:=by rw [←strL_len,hst]; exact HS.out _ HMEM.out
      have hrd:=qh (rat_Read (w:=w2) (hT.ext hEw2) hsz);rw [hst] at hrd;obtain ⟨t,HTT⟩:∃ t,Hid (ts.getD k tm0=t):=⟨_,qh rfl⟩;rw [HTT.out] at hrd hxs2 hxs hst HMEM;obtain ⟨t1,t2⟩:=t;simp only at hrd hxs2 hxs hst;obtain ⟨X,hX⟩:∃ x,wr.heap.size=x:=⟨_,rfl⟩;rw [hX] at hB2 ⊢;have hGX:G<X:=by have:=(hO.lt (g:=G) rfl).2; omega
      have y0:=hB2.c 0 rfl;have y1:=hB2.c 1 rfl;clear hY hg2 hO hE hE2 hrow hrow' hcl hSw HC hst hsz
      go_wp2_with fail
      refine hrd.out.mono ?_;rintro e w3 ⟨_,rfl,hE3,s3,a3,n3,c3,b3,m3,d3,rfl,HS3,hx3,hy3⟩;have hYr:=Arr.new w3 97 (ratL false none 0 0 false none 0 0);have hl3:(ratL s3 a3 n3 c3 false b3 m3 d3).toArray=#[.bool s3, .slice a3 n3 c3, .bool false, .slice b3 m3 d3]:=rfl
      go_upto_region 8 with (refine wl_stArr (vs:=ratL s3 a3 n3 c3 false b3 m3 d3) rfl rfl rfl rfl rfl agg_Ratio hYr rfl (ratL_one _ _ _ _ _ _ _ _) ?_; intro w4 hB4 hg4)
      have hE34:Ext w3 w4:=((Ext.refl w3).alloc _).grownR hg4 (Nat.le_refl _);have hE24:=hE3.trans hE34;have hE04:=hE02.trans hE24;have hEw4:=hE0.trans hE04;have hR4:=hR.ext hE04;have hO4:=hO2.ext hE24;have HC4:Hid (∀ i,i<k→mkOK vn (ts.getD i tm0)∧EntC w4 (rs.getD i []) (mkTm (ts.getD i tm0))):=qh fun i hi=>⟨(HC2.out i hi).1,(HC2.out i hi).2.ext hE24⟩;have hxs4:=hxs2.ext hE24;have y1:=hE24.cell y1;have hx4:=hx3.ext hE34;have hy4:=hy3.ext hE34;have hlx:=hxs4.len;obtain ⟨Y,hYe⟩:∃ x,w3.heap.size=x:=⟨_,rfl⟩;rw [hYe] at hB4 ⊢;have z0:=hB4.c 0 rfl;have z1:=hB4.c 1 rfl;have z2:=hB4.c 2 rfl
      have z3:=hB4.c 3 rfl;clear hYr hg4 hl3 hE3 hE34 hx3 hy3 hO2 HC2 hxs2 y0 hB2 hrd hE02 hB4 hYe;cases hrq:readQ t1 with
      | none =>
       have HNO:Hid (¬ ∀ t∈ts,mkOK vn t):=qh (fun h=>by have:=(h _ HMEM.out).1; rw [hrq] at this; cases this);simp only [Option.isSome_none];clear hrq
       go_wp2_with (refine wl_stArr (vs:=polyL 0 none 0 0) rfl rfl rfl rfl rfl agg_Poly hR4 rfl (polyL_one _ _ _ _) ?_; intro w9 hB9 hg9)
       refine bodyPost_ret (res_ct rfl agg_Poly rfl rfl hB9) rfl ?_;exact Or.inr (Or.inl ⟨hv0,hv6,HNO.out,none,0,0,rfl,hEw4.grownR hg9 (Nat.le_refl _),TmO.nil _ _⟩)
      | some q =>
       simp only [Option.isSome_some,hrq,Option.getD_some] at HS3 hx4 hy4 ⊢;by_cases hnv:(nx:Int)=vn
       · have hnv':((nx:Int) != (vn:Int))=false:=by simp [hnv]
         cases hvx:validS t2 with
         | false =>
          have HNO:Hid (¬ ∀ t∈ts,mkOK vn t):=qh (fun h=>by have:=(h _ HMEM.out).2.2; rw [show ((t1,t2):Tx).2=t2 from rfl,hvx] at this; cases this);have hmv:=qh (mono_Valid hxs4);rw [hvx] at hmv;have HNV:=qh hnv;clear hrq hvx hnv
          go_wp2_with fail
          refine hmv.out.mono ?_;rintro e w5 ⟨rfl,rfl⟩
          go_wp2_with (refine wl_stArr (vs:=polyL 0 none 0 0) rfl rfl rfl rfl rfl agg_Poly hR4 rfl (polyL_one _ _ _ _) ?_; intro w9 hB9 hg9)
          refine bodyPost_ret (res_ct rfl agg_Poly rfl rfl hB9) rfl ?_;exact Or.inr (Or.inl ⟨hv0,hv6,HNO.out,none,0,0,rfl,hEw4.grownR hg9 (Nat.le_refl _),TmO.nil _ _⟩)
         | true =>
          have HMK:Hid (mkOK vn (t1,t2)):=qh ⟨by rw [show ((t1,t2):Tx).1=t1 from rfl,hrq]; rfl,by show (t2.length:Int)=vn; rw [hlx]; exact hnv,hvx⟩;have HMT:Hid (mkTm (t1,t2)=(pad6 t2,q)):=qh (by show (pad6 t2,(readQ t1).getD 0)=_; rw [hrq]; rfl);have hmv:=qh (mono_Valid hxs4);rw [hvx] at hmv;have hn6:nx≤6:=by omega
          have hrz:=HZ.out k (Nat.le_refl _) hlt;have hrl:=hO4.len (by omega);have hfl:=flat_len rs hO4.1;rw [hrl] at hfl
          have HF1:Hid (rs.flatten.take (k*10+6) ++ ratL s3 a3 n3 c3 false b3 m3 d3 ++ rs.flatten.drop (k*10+6+(ratL s3 a3 n3 c3 false b3 m3 d3).length)=(rs.set k (entL ze s3 a3 n3 c3 b3 m3 d3)).flatten):=qh (by
           rw [flat_splice rs hO4.1 k 6 (ratL s3 a3 n3 c3 false b3 m3 d3) (by simp [ratL,intL]) (by omega),hrz]
           rfl)
          have hw1:∀ r∈rs.set k (entL ze s3 a3 n3 c3 b3 m3 d3),r.length=10:=fun r hr=>by
           rcases List.mem_or_eq_of_mem_set hr with h|h
           · exact hO4.1 r h
           · rw [h,entL_len]; rfl
          have HF2:Hid ((rs.set k (entL ze s3 a3 n3 c3 b3 m3 d3)).flatten.take (k*10) ++ t2.map (Value.int .i64) ++ (rs.set k (entL ze s3 a3 n3 c3 b3 m3 d3)).flatten.drop (k*10+nx)=(rs.set k (entL (pad6 t2) s3 a3 n3 c3 b3 m3 d3)).flatten):=qh (by
           have h1:=flat_splice (rs.set k (entL ze s3 a3 n3 c3 b3 m3 d3)) hw1 k 0 (t2.map (Value.int .i64)) (by simp; omega) (by simp; omega);rw [Nat.add_zero,List.length_map,hlx] at h1;rw [h1,List.set_set];congr 2;have e1:(rs.set k (entL ze s3 a3 n3 c3 b3 m3 d3)).getD k []=entL ze s3 a3 n3 c3 b3 m3 d3:=by rw [List.getD_eq_getElem?_getD,List.getElem?_set_self (by omega)]; rfl
           rw [e1,List.take_zero,List.nil_append,Nat.zero_add];unfold entL pad6;have hz:ze=List.replicate 6 0:=rfl
           rw [hz,List.map_replicate,List.map_append,List.map_replicate,List.drop_append,List.drop_replicate,hlx,List.length_replicate,show nx-6=0 by omega,List.drop_zero,List.append_assoc])
          have hA4:=hO4.arrK;have HNV:=qh hnv;have HO1:=qh hO4.1;have hGlt:=(hO4.lt (g:=G) rfl);have hU4:=hO4.noU hnu;have hkn:(k:Int)<n:=by omega
          have hXG:X≠G:=by omega
          clear hrq hvx hnv hrz hO4
          go_wp2_with fail
          refine hmv.out.mono ?_;rintro e w5 ⟨rfl,rfl⟩;clear hmv
          go_upto_region 11 with (refine wl_stSub rfl rfl (ratL s3 a3 n3 c3 false b3 m3 d3) _ (by kernel_rfl) rfl rfl rfl hA4 (by rw [hfl]; simp [ratL,intL]; omega) (ratL_one _ _ _ _ _ _ _ _) HF1.out ?_; intro w5 hA5 hg5)
          have nu1:∀ v∈(rs.set k (entL ze s3 a3 n3 c3 b3 m3 d3)).flatten,∀ i,v ≠ .int .u64 i:=fun v hv=>by
           obtain ⟨r,hr,hu⟩:=List.mem_flatten.1 hv;rcases List.mem_or_eq_of_mem_set hr with h|h
           · exact hnu r h v hu
           · rw [h] at hu; exact entL_nu v hu
          have hwG:w.heap.size≤G:=by have:=hE0.size; omega
          have hEw5:=hEw4.grownR hg5 hwG;have hE05:=hE04.grownR hg5 (Nat.le_of_eq hG);have hxs5:=hxs.ext hEw5;have yy:w5.cell? ⟨X,1,none⟩=some (.slice ax nx cx):=by rw [World.cell?_of_block (w:=w4) (hg5.block X (World.block_lt_of_cell? w4 ⟨X,1,none⟩ y1) (by simp; omega)),y1]
          have HC5:Hid (∀ i,i<k→mkOK vn (ts.getD i tm0)∧EntC w5 (rs.getD i []) (mkTm (ts.getD i tm0))):=qh fun i hi=>⟨(HC4.out i hi).1,(HC4.out i hi).2.keptU hU4 hg5⟩;have hx5:=hx4.keptU hU4 hg5;have hy5:=hy4.keptU hU4 hg5;have hfl5:=flat_len _ hw1;rw [List.length_set,hrl] at hfl5;clear y1 z0 z1 z2 z3 hA4 hU4 hg5 HC4 hx4 hy4 hxs4 hR4 hE04 hEw4 HF1 hfl
          go_still_tail 7,(by kernel_rfl)
          change wpList _ _ _ _ _ w5.drew;have hA6:Arr w5.drew G 111 (rs.set k (entL ze s3 a3 n3 c3 b3 m3 d3)).flatten:=hA5;have hdr:=(Ext.refl w5).drew;have hxs6:=hxs5.ext hdr;have hE06:=hE05.trans hdr;have HC6:Hid (∀ i,i<k→mkOK vn (ts.getD i tm0)∧EntC w5.drew (rs.getD i []) (mkTm (ts.getD i tm0))):=qh fun i hi=>⟨(HC5.out i hi).1,(HC5.out i hi).2.ext hdr⟩;have hx6:=hx5.ext hdr;have hy6:=hy5.ext hdr;clear hA5 hxs5 hE05 hEw5 HC5 hx5 hy5 hdr yy;generalize w5.drew=w6 at *
          have hU6:=hA6.noU nu1
          go_wp2_with (refine wl_cp (sT:=22) rfl rfl Tryz.underlying22 info_i64 rfl rfl hA6 hxs6 hn6 (by rw [hfl5]; omega) (ints_one _) ?_; intro w7 hA7 hg7; rw [HF2.out] at hA7)
          go_roundw
          case rel =>
           have hw2:∀ r∈rs.set k (entL (pad6 t2) s3 a3 n3 c3 b3 m3 d3),r.length=10:=fun r hr=>by
            rcases List.mem_or_eq_of_mem_set hr with h|h
            · exact HO1.out r h
            · rw [h,entL_len,pad6_len (by omega)]
           refine ⟨k+1,rs.set k (entL (pad6 t2) s3 a3 n3 c3 b3 m3 d3),by go_num,by omega,hE06.grownR hg7 (Nat.le_of_eq hG),hA7.ownK hw2 (by rw [List.length_set]; exact hrl) (Nat.le_of_eq hG) (by unfold maxLen; omega), ?_,qh fun i hi => ?_,qh fun i h1 h2 => ?_⟩
           · intro r hr u hu;rcases List.mem_or_eq_of_mem_set hr with h|h
             · exact hnu r h u hu
             · rw [h] at hu; exact entL_nu u hu
           · by_cases hik:i=k
             · subst hik;rw [HTT.out];refine ⟨HMK.out, ?_⟩;rw [HMT.out,List.getD_eq_getElem?_getD,List.getElem?_set_self (by omega)];exact EntC.keptU ⟨s3,a3,n3,c3,b3,m3,d3,rfl,pad6_len (by show t2.length≤6; omega),s3,a3,n3,c3,b3,m3,d3,rfl,HS3,hx6,hy6⟩ hU6 hg7
             · rw [List.getD_eq_getElem?_getD (l:=rs.set _ _),List.getElem?_set_ne (by omega),←List.getD_eq_getElem?_getD];exact ⟨(HC6.out i (by omega)).1,(HC6.out i (by omega)).2.keptU hU6 hg7⟩
           · rw [List.getD_eq_getElem?_getD (l:=rs.set _ _),List.getElem?_set_ne (by omega),←List.getD_eq_getElem?_getD];exact HZ.out i (by omega) h2
          case measure=>simp [intOf]; omega
       · have HNO:Hid (¬ ∀ t∈ts,mkOK vn t):=qh (fun h=>hnv (by have:=(h _ HMEM.out).2.1; rw [←hlx]; exact this));have hnv':((nx:Int) != (vn:Int))=true:=by simpa using hnv
         clear hrq hnv
         go_wp2_with (refine wl_stArr (vs:=polyL 0 none 0 0) rfl rfl rfl rfl rfl agg_Poly hR4 rfl (polyL_one _ _ _ _) ?_; intro w9 hB9 hg9)
         refine bodyPost_ret (res_ct rfl agg_Poly rfl rfl hB9) rfl ?_;exact Or.inr (Or.inl ⟨hv0,hv6,HNO.out,none,0,0,rfl,hEw4.grownR hg9 (Nat.le_refl _),TmO.nil _ _⟩)
    · have hkn:k=n:=by omega
      subst hkn
      have HALL:Hid (∀ t∈ts,mkOK vn t):=qh (fun t ht=>by
       obtain ⟨i,hi,rfl⟩:=List.mem_iff_getElem.1 ht;have:=(HC.out i (by rw [←HL.out]; exact hi)).1;rw [List.getD_eq_getElem?_getD,List.getElem?_eq_getElem hi] at this
       exact this)
      have hSK:=HOK.out HALL.out;have HSK:=qh hSK
      have hES:EntSl wr (some ⟨G,0,none⟩) k k (ts.map mkTm):=⟨rs,hO.slk (by omega),by simp [HL.out],fun i hi=>by
       have h1:=(HC.out i hi).2;have h2:(ts.map mkTm).getD i ([],0)=mkTm (ts.getD i tm0):=by simp [List.getD_eq_getElem?_getD,HL.out,hi]
       rw [h2]; exact h1⟩
      have hEa:=(Ext.refl wr).alloc (.cells #[.slice (some ⟨G,0,none⟩) k k] 61);have hLL:EntLL (wr.alloc (.cells #[.slice (some ⟨G,0,none⟩) k k] 61)) (some ⟨wr.heap.size,0,none⟩) 1 1 [ts.map mkTm]:=by
       refine ⟨[.slice (some ⟨G,0,none⟩) k k],(own_alloc wr wr.heap.size 61 #[.slice (some ⟨G,0,none⟩) k k] 1 rfl (Nat.le_refl _) (by omega)).sl,rfl,fun i hi => ?_⟩;have:i=0:=by omega
       subst this;exact ⟨_,k,k,rfl,hES.ext hEa⟩
      have hfl1:[ts.map mkTm].flatten=ts.map mkTm:=by simp
      have HCO:=qh (poly_collect ((hT.ext hEw).ext hEa) hLL (by omega) (by rw [hfl1]; exact hSK.fits.len) (by rw [hfl1]; exact hSK.pre) (by rw [hfl1]; exact hSK.each));rw [hfl1] at HCO;have hE0a:=hE.trans hEa;have hRa:=hR.ext hE0a;clear hSK hES hLL hO HC HZ hfl1
      go_wp2_with fail
      refine HCO.out.mono ?_;rintro e w3 ⟨out,⟨a3,n3,c3,rfl,hE3,hO3⟩,hnr,hcf⟩;have hfo:=HSK.out.fits.out hnr hcf;have hlo:=hO3.len;have HWR:=qh (poly_write (vars:=vn) (w0:=w0) (hT.ext hE0) (hE0a.trans hE3) (hO3.mono hE0a.size) (by omega) hfo.1 hfo.2.1 (by omega));have HNR:=qh (And.intro hnr hcf);clear hnr hcf hfo HCO
      go_wp2_with fail
      refine HWR.out.mono ?_;intro e w7 hw;have hq:=RetWr.q (p:=ts.map mkTm) hw HNR.out.1 HNR.out.2;obtain ⟨rr,HRR⟩:∃ r,Hid (resQ (vn:Int) (ts.map mkTm)=r):=⟨_,qh rfl⟩;rw [HRR.out] at hq;obtain ⟨a7,n7,c7,rfl,hE7,hO7⟩:=hq;have hpv:polyV rr.1 a7 n7 c7 = .agg #[.int .i64 rr.1, .slice a7 n7 c7]:=rfl;rw [hpv];have hpl:(polyL rr.1 a7 n7 c7).toArray=#[.int .i64 rr.1, .slice a7 n7 c7]:=rfl;have hR7:=hR.ext hE7;clear hw HWR
      go_wp2_with (refine wl_stArr (vs:=polyL rr.1 a7 n7 c7) rfl rfl rfl rfl rfl agg_Poly hR7 rfl (polyL_one _ _ _ _) ?_; intro w8 hB8 hg8)
      refine bodyPost_ret (res_ct rfl agg_Poly rfl rfl hB8) rfl ?_;exact Or.inr (Or.inr ⟨hv0,hv6,HALL.out,by rw [HRR.out]; exact retP_end hE0 hE7 hO7 hR7 hg8 (Nat.le_refl _)⟩)
 · have HF:Hid (∀ e w',RetP w 0 [] 3 e w'→RetMake w vars ts e w'):=qh (fun e w' h=>Or.inl ⟨hv,h⟩);have hcase:vars<0∨(¬ vars<0∧6<vars):=by omega
   clear hv hok;rcases hcase with h1|⟨h1,h2⟩
   all_goals
    go_wp2_with (refine wl_stArr (vs:=polyL 0 none 0 0) rfl rfl rfl rfl rfl agg_Poly hR rfl (polyL_one _ _ _ _) ?_; intro w9 hB9 hg9)
    refine bodyPost_ret (res_ct rfl agg_Poly rfl rfl hB9) rfl ?_;exact HF.out _ _ ⟨none,0,0,rfl,hE0.grownR hg9 (Nat.le_refl _),TmO.nil _ _⟩
theorem slices_Equal {a b:Option Addr} {n c m d:Nat} {xs ys:List Int} {w:World} (hx:SlI w a n c xs) (hy:SlI w b m d ys) :
 Calls Tryz.prog 110 #[.slice a n c, .slice b m d] w fun e w'=>e = .returned (.bool (decide (xs=ys)))∧Qt w w':=by
 have hm:=hx.le;have hm2:=hy.le;by_cases hl:n=m
 · have hne:((n:Int) != (m:Int))=false:=by simp [hl]
   have HL:=qh hl;clear hl
   go_enter Tryz.func110,Tryz.ntmps110
   go_wp2
   go_loopw [13] (fun i wr=>∃ k:Nat,k≤n∧i = .int .i64 k∧Qt w wr∧xs.take k=ys.take k) (fun i _=>n-(intOf i).toNat)
   case atStart=>exact ⟨0,Nat.zero_le _,rfl,Qt.refl _,rfl⟩
   case round =>
    obtain ⟨k,hk,rfl,hE,hp⟩:=hrel;have HP:=qh hp;clear hp;have hx:=hx.ext hE.ext;have hy:=hy.ext hE.ext;by_cases hlt:k<n
    · have hlt2:k<m:=by have:=HL.out; omega
      obtain ⟨b1,o1,rfl,hc1⟩:=hx.at hlt;obtain ⟨b2,o2,rfl,hc2⟩:=hy.at hlt2;have g1:=hc1 k hlt;have g2:=hc2 k hlt2;clear hc1 hc2;generalize hxk:xs.getD k 0=xk at *
      generalize hyk:ys.getD k 0=yk at *
      have HX:=qh hxk;have HY:=qh hyk;clear hxk hyk;go_wp2
      go_quiet (fail)
      by_cases he:(xk != yk)=true
      · go_wp2;go_ret;have:xs≠ys:=ne_of_at (k:=k) (by rw [HX.out,HY.out]; exact he);exact ⟨by simp [this],hE.drewN _⟩
      · have he':(xk != yk)=false:=by simpa using he
        go_wp2;go_roundw
        case rel=>exact ⟨k+1,by omega,by go_num,hE.drewN _,take_step HP.out (by have:=hx.len; omega) (by have:=hy.len; omega) (by rw [HX.out,HY.out]; exact he')⟩
        case measure=>simp [intOf]; omega
    · go_wp2;go_ret;refine ⟨?_,hE⟩;have h1:=HP.out;have h2:=HL.out;rw [List.take_of_length_le (by have:=hx.len; omega),List.take_of_length_le (by have:=hy.len; omega)] at h1;simp [h1]
 · have hne:((n:Int) != (m:Int))=true:=by simp; omega
   go_enter Tryz.func110,Tryz.ntmps110
   go_wp2;go_ret;refine ⟨?_,Qt.refl _⟩;have:xs≠ys:=by rintro rfl; exact hl (hx.len.symm.trans hy.len)
   simp [this]
theorem poly_Equal1 {s s':ByteArray} {a b:Option Addr} {n c m d:Nat} {xs ys:List Int} {w:World} (hx:SlI w a n c xs) (hy:SlI w b m d ys) :
 Calls Tryz.prog 109 #[.agg #[.string s, .slice a n c], .agg #[.string s', .slice b m d]] w fun e w'=>e = .returned (.bool (decide ((strL s,xs)=(strL s',ys))))∧Ext w w':=by
 have hrd:=fun (wx:World) (hE:Ext w wx)=>qh (slices_Equal (hx.ext hE) (hy.ext hE))
 go_enter Tryz.func109,Tryz.ntmps109
 go_upto_region 1 with (fail)
 refine box2 ?_;intro w0 hE0 hB0 hB1 hz0;have t0:=hB0.c 0 rfl;have t1:=hB0.c 1 rfl;have u0:=hB1.c 0 rfl;have u1:=hB1.c 1 rfl;clear hB0 hB1 hz0;by_cases he:s.toList=s'.toList
 · go_wp2_with fail
   refine (hrd _ hE0).out.mono ?_;rintro e w1 ⟨rfl,hE1⟩;go_wp2;go_ret;rw [ByteArray.toList_eq,ByteArray.toList_eq] at he;exact ⟨by unfold strL; simp [he],hE0.trans hE1.ext⟩
 · go_wp2_with fail
   go_ret;rw [ByteArray.toList_eq,ByteArray.toList_eq] at he;exact ⟨by unfold strL; simp [he],hE0⟩
theorem take_stepT {xs ys:List Tx} {k:Nat} (hp:xs.take k=ys.take k) (h1:k<xs.length) (h2:k<ys.length) (he:xs.getD k tm0=ys.getD k tm0):xs.take (k+1)=ys.take (k+1):=by
 simp only [List.getD_eq_getElem?_getD,h1,h2,List.getElem?_eq_getElem,Option.getD_some] at he;rw [List.take_succ_eq_append_getElem h1,List.take_succ_eq_append_getElem h2,hp,he]
theorem slices_EqualFunc {a b:Option Addr} {n c m d:Nat} {xs ys:List Tx} {w:World} (hx:TmSl w a n c xs) (hy:TmSl w b m d ys) :
 Calls Tryz.prog 108 #[.slice a n c, .slice b m d, .func (.func 109) #[] #[]] w fun e w'=>e = .returned (.bool (decide (xs=ys)))∧Ext w w':=by
 have hlx:=hx.len;have hly:=hy.len;obtain ⟨rx,hX,_,hqx⟩:=hx;obtain ⟨ry,hY,_,hqy⟩:=hy;have HQX:=qh hqx;have HQY:=qh hqy;have HLX:=qh hlx;have HLY:=qh hly;clear hqx hqy hlx hly;have hmn:=hX.le;have hmm:=hY.le;by_cases hl:n=m
 · have hne:((n:Int) != (m:Int))=false:=by simp [hl]
   have HL:=qh hl;clear hl
   go_enter Tryz.func108,Tryz.ntmps108
   go_wp2
   go_loopw [17] (fun i wr=>∃ k:Nat,k≤n∧i = .int .i64 k∧Ext w wr∧xs.take k=ys.take k) (fun i _=>n-(intOf i).toNat)
   case atStart=>exact ⟨0,Nat.zero_le _,rfl,Ext.refl _,rfl⟩
   case round =>
    obtain ⟨k,hk,rfl,hE,hp⟩:=hrel;have HP:=qh hp;clear hp;by_cases hlt:k<n
    · have hlt2:k<m:=by have:=HL.out; omega
      have hXw:=hX.ext hE;obtain ⟨b1,o1,rfl,hc1⟩:=hXw.rd (by omega);obtain ⟨s1,a1,n1,c1,hr1,hs1,hx1⟩:=HQX.out k hlt;obtain ⟨s2,a2,n2,c2,hr2,hs2,hx2⟩:=HQY.out k hlt2;clear hc1;have hB:=Arr.new wr 60 (tmL ⟨#[]⟩ none 0 0)
      go_upto_region 6 with (first
       | (refine wl_ldK rfl rfl agg_Term rfl hXw hlt ?_; rw [hr1])
       | (refine wl_stArr (vs:=tmL s1 a1 n1 c1) rfl rfl rfl rfl rfl agg_Term hB rfl (tmL_one _ _ _ _) ?_; intro w2 hB2 hg2))
      have hE2:Ext wr w2:=((Ext.refl wr).alloc _).grownR hg2 (Nat.le_refl _);have hEw2:=hE.trans hE2;have hY2:=hY.ext hEw2;clear hB hg2 hE hE2 hXw;generalize wr.heap.size=Xg at *
      obtain ⟨b2,o2,rfl,hc2⟩:=hY2.rd (by omega);clear hc2;have hB:=Arr.new w2 60 (tmL ⟨#[]⟩ none 0 0)
      go_upto_region 7 with (first
       | (refine wl_ldK rfl rfl agg_Term rfl hY2 hlt2 ?_; rw [hr2])
       | (refine wl_stArr (vs:=tmL s2 a2 n2 c2) rfl rfl rfl rfl rfl agg_Term hB rfl (tmL_one _ _ _ _) ?_; intro w3 hB3 hg3))
      have hE3:Ext w2 w3:=((Ext.refl w2).alloc _).grownR hg3 (Nat.le_refl _);have hEw3:=hEw2.trans hE3;have hB2':=hB2.ext hE3;have hlt3:=hB2.lt;have heq:=poly_Equal1 (s:=s1) (s':=s2) (hx1.ext hEw3) (hx2.ext hEw3);rw [hs1,hs2] at heq;have HEQ:=qh heq;clear heq hs1 hs2 hr1 hr2 hB hg3 hEw2 hE3 hB2 hx1 hx2 hY2;generalize w2.heap.size=Yg at *
      have x0:w3.cell? ⟨Xg,0,none⟩=some (.string s1):=hB2'.cell (i:=0) (by simp [tmL]);have x1:w3.cell? ⟨Xg,1,none⟩=some (.slice a1 n1 c1):=hB2'.cell (i:=1) (by simp [tmL]);have y0:=hB3.c 0 rfl;have y1:=hB3.c 1 rfl;clear hB2' hB3
      go_wp2_with fail
      refine HEQ.out.mono ?_;rintro e w4 ⟨rfl,hE4⟩;have hEw4:=hEw3.trans hE4;obtain ⟨bq,hbq⟩:∃ bq,decide (((xs.getD k tm0).1,(xs.getD k tm0).2)=((ys.getD k tm0).1,(ys.getD k tm0).2))=bq:=⟨_,rfl⟩;rw [hbq];have HB:=qh hbq;clear hbq;cases bq with
      | true =>
       go_wp2;go_roundw
       case rel=>exact ⟨k+1,by omega,by go_num,hEw4,take_stepT HP.out (by have:=HLX.out; omega) (by have:=HLY.out; omega) (by have:=HB.out; exact of_decide_eq_true this)⟩
       case measure=>simp [intOf]; omega
      | false =>
       go_wp2;go_ret;have:xs≠ys:=by
        rintro rfl;have:=HB.out;simp at this
       exact ⟨by simp [this],hEw4⟩
    · go_wp2;go_ret;refine ⟨?_,hE⟩;have h1:=HP.out;have h2:=HL.out;rw [List.take_of_length_le (by have:=HLX.out; omega),List.take_of_length_le (by have:=HLY.out; omega)] at h1;simp [h1]
 · have hne:((n:Int) != (m:Int))=true:=by simp; omega
   go_enter Tryz.func108,Tryz.ntmps108
   go_wp2;go_ret;refine ⟨?_,Ext.refl _⟩;have:xs≠ys:=by rintro rfl; exact hl (HLX.out.symm.trans HLY.out)
   simp [this]
theorem poly_Equal {v1 v2:Int} {a b:Option Addr} {n c m d:Nat} {xs ys:List Tx} {w:World} (hT:Tabs w) (hx:TmSl w a n c xs) (hy:TmSl w b m d ys) (hs:∀ t∈xs,t.1.length≤570) :
 Calls Tryz.prog 56 #[.agg #[.int .i64 v1, .slice a n c], .agg #[.int .i64 v2, .slice b m d]] w fun e w'=>e = .returned (.bool (decide (xs=ys) && decide (v1=v2) && (rdP v1 xs).isSome))∧Ext w w':=by
 have hef:=fun (wx:World) (hE:Ext w wx)=>qh (slices_EqualFunc (hx.ext hE) (hy.ext hE));have hva:=fun (wx:World) (hE:Ext w wx)=>qh (poly_Valid (vars:=v1) (hT.ext hE) (hx.ext hE) hs);obtain ⟨bq,hbq⟩:∃ bq,decide (xs=ys)=bq:=⟨_,rfl⟩;obtain ⟨br,hbr⟩:∃ br,(rdP v1 xs).isSome=br:=⟨_,rfl⟩;rw [hbq,hbr];rw [hbq] at hef;rw [hbr] at hva;clear hbq hbr
 go_enter Tryz.func56,Tryz.ntmps56
 go_upto_region 1 with (fail)
 refine box2 ?_;intro w0 hE0 hB0 hB1 hz0;have t0:=hB0.c 0 rfl;have t1:=hB0.c 1 rfl;have u0:=hB1.c 0 rfl;have u1:=hB1.c 1 rfl;clear hB0 hB1 hz0;generalize w.heap.size=X at *
 go_wp2_with fail
 refine (hef _ hE0).out.mono ?_;rintro e w1 ⟨rfl,hE1⟩;have hEw:=hE0.trans hE1;have q0:=hE1.cell t0;have q1:=hE1.cell t1;have r0:=hE1.cell u0;have r1:=hE1.cell u1;clear t0 t1 u0 u1 hef;cases bq with
 | false =>
  go_wp2_with fail
  go_ret;exact ⟨by simp,hEw⟩
 | true =>
  by_cases hv:v1=v2
  · have he:(v1 == v2)=true:=by simpa using hv
    have HV:=qh hv;clear hv
    go_wp2_with fail
    refine (hva _ hEw).out.mono ?_;rintro e w2 ⟨rfl,hE2⟩;go_wp2;go_ret;exact ⟨by simp [HV.out],hEw.trans hE2⟩
  · have he:(v1 == v2)=false:=by simpa using hv
    go_wp2_with fail
    go_ret;exact ⟨by simp [hv],hEw⟩
noncomputable def degP (vars:Int) (ts:List Tx):Int:=if (rdP vars ts).isSome=true∧0<ts.length then degS (ts.getD 0 tm0).2 else -1
theorem poly_Degree {vars:Int} {a:Option Addr} {n c:Nat} {ts:List Tx} {w:World} (hT:Tabs w) (h:TmSl w a n c ts) (hs:∀ t∈ts,t.1.length≤570) :
 Calls Tryz.prog 57 #[.agg #[.int .i64 vars, .slice a n c]] w fun e w'=>e = .returned (.int .i64 (degP vars ts))∧Ext w w':=by
 have hva:=fun (wx:World) (hE:Ext w wx)=>qh (poly_Valid (vars:=vars) (hT.ext hE) (h.ext hE) hs);obtain ⟨r,hr⟩:∃ r,degP vars ts=r:=⟨_,rfl⟩;rw [hr];unfold degP at hr;have hlen:=h.len;obtain ⟨br,hbr⟩:∃ br,(rdP vars ts).isSome=br:=⟨_,rfl⟩;rw [hbr,hlen] at hr;rw [hbr] at hva;clear hbr;have HR:=qh hr;have HL:=qh hlen;clear hr hlen;have hle:n≤maxLen:=by obtain ⟨rows,hS,_⟩:=h; exact hS.le
 go_enter Tryz.func57,Tryz.ntmps57
 go_upto_region 1 with (fail)
 refine box1 ?_;intro w0 hE0 hB0 hz0;have t0:=hB0.c 0 rfl;have t1:=hB0.c 1 rfl;clear hB0 hz0;generalize w.heap.size=X at *
 by_cases hn:0<n
 · have he:((n:Int) == 0)=false:=by simp; omega
   go_wp2_with fail
   refine (hva _ hE0).out.mono ?_;rintro e w1 ⟨rfl,hE1⟩;have hEw:=hE0.trans hE1;have q0:=hE1.cell t0;have q1:=hE1.cell t1;clear t0 t1;cases br with
   | false =>
    go_wp2;go_ret;exact ⟨by rw [←HR.out]; simp,hEw⟩
   | true =>
    obtain ⟨rows,hS,_,hq⟩:=h;obtain ⟨s,ax,nx,cx,hrow,hst,hxs⟩:=hq 0 hn;clear hq;generalize ts.getD 0 tm0=tt at *
    have hSw:=hS.ext hEw;obtain ⟨b,o,rfl,hc⟩:=hSw.rd hn;have c1:=hc 0 hn 1 (by omega);rw [hrow] at c1;simp only [Nat.zero_mul,Nat.add_zero,List.getD_cons_succ,List.getD_cons_zero] at c1;have hdg:=mono_Degree (hxs.ext hEw);have HD:=qh hdg;clear hdg hc hSw hS hrow hst
    go_wp2_with fail
    refine HD.out.mono ?_;rintro e w2 ⟨rfl,rfl⟩;go_wp2;go_ret;exact ⟨by rw [←HR.out]; simp [hn],hEw⟩
 · have hn0:n=0:=by omega
   have he:((n:Int) == 0)=true:=by simp; omega
   have HN:=qh hn;clear hn0 hn
   go_wp2_with fail
   go_ret;exact ⟨by rw [←HR.out]; simp [HN.out],hE0⟩
def StrSl (w:World) (a:Option Addr) (n c:Nat) (l:List (List UInt8)):Prop:=∃ cs,Sl w a n c cs∧l.length=n∧∀ i,i<n→∃ s,cs.getD i undef = .string s∧strL s=l.getD i []
theorem StrSl.ext {w w':World} {a:Option Addr} {n c:Nat} {l:List (List UInt8)} (h:StrSl w a n c l) (e:Ext w w'):StrSl w' a n c l:=by
 obtain ⟨cs,h1,h2,h3⟩:=h;exact ⟨cs,h1.ext e,h2,h3⟩
open Classical in
noncomputable def rdAll (l:List (List UInt8)):Option (List Rat):=if ∀ i,i<l.length→(readQ (l.getD i [])).isSome=true then some (l.map (fun t=>(readQ t).getD 0)) else none
def RetRs (w:World) (o:Option (List Rat)) (e:Ending) (w':World):Prop:=∃ a n c,e = .returned (.tuple #[.slice a n c, .bool o.isSome])∧Ext w w'∧RatSl w' a n c (o.getD [])
theorem RatSl.nil (w:World):RatSl w none 0 0 []:=⟨[],SlK.nil w 4,rfl,fun i hi=>absurd hi (by omega)⟩
theorem rat_ReadAll {a:Option Addr} {n c:Nat} {l:List (List UInt8)} {w:World} (hT:Tabs w) (h:StrSl w a n c l) (hs:∀ t∈l,t.length≤570) (hn:n≤1000000) :
 Calls Tryz.prog 52 #[.slice a n c] w (RetRs w (rdAll l)):=by
 obtain ⟨cs,hS,hl,hq⟩:=h;have HQ:=qh hq;have HL:=qh hl;have HS:=qh hs;clear hq hl hs;obtain ⟨r,hr⟩:∃ r,rdAll l=r:=⟨_,rfl⟩;rw [hr];have HR:=qh hr;clear hr;have hnu0:nuR (List.replicate n (ratL false none 0 0 false none 0 0)):=fun r hr u hu=>by rw [(List.mem_replicate.1 hr).2] at hu; exact ratL_nu _ _ _ _ _ _ _ _ u hu
 go_enter Tryz.func52,Tryz.ntmps52
 go_upto_region 2 with (refine wl_mkK rfl rfl (by kernel_rfl) elem_Ratio rfl rfl (by omega) (by unfold maxLen; omega) ?_; intro w1 hO1 hE1)
 go_wp2
 go_loopw [14] (fun iv wr=>∃ (k:Nat) (rs:List (List Value)),iv = .int .i64 k∧k≤n∧Ext w wr∧OwnK wr w.heap.size 97 4 (some ⟨w.heap.size,0,none⟩) n n rs∧nuR rs∧Hid (∀ i,i<k→(readQ (l.getD i [])).isSome=true)∧Hid (∀ i,i<k→RatC wr (rs.getD i []) ((readQ (l.getD i [])).getD 0))) (fun iv _=>n-(intOf iv).toNat)
 case atStart=>exact ⟨0,_,rfl,Nat.zero_le _,hE1,hO1,hnu0,qh (fun i hi=>absurd hi (by omega)),qh (fun i hi=>absurd hi (by omega))⟩
 case round =>
  clear hO1 hE1 hnu0;obtain ⟨k,rs,rfl,hk,hE,hO,hnu,HK,HC⟩:=hrel;by_cases hlt:k<n
  · have hSw:=hS.ext hE;obtain ⟨b,off,rfl,hcl⟩:=hSw.rd (by omega);obtain ⟨s,hcs,hst⟩:=HQ.out k hlt;have c0:=hcl k hlt;rw [hcs] at c0;have hsz:s.size≤570:=by
     rw [←strL_len,hst];exact HS.out _ (by simp [List.getD_eq_getElem?_getD,HL.out,hlt])
    have hrd:=rat_Read (hT.ext hE) hsz;rw [hst] at hrd;have HRD:=qh hrd;clear hrd hcl hcs hst hSw;obtain ⟨o,HO⟩:∃ o,Hid (readQ (l.getD k [])=o):=⟨_,qh rfl⟩;rw [HO.out] at HRD
    go_wp2_with fail
    refine HRD.out.mono ?_;rintro e w2 ⟨row,rfl,hE2,s1,a1,n1,c1,b1,m1,d1,rfl,hrc⟩;have hl1:(ratL s1 a1 n1 c1 false b1 m1 d1).toArray=#[.bool s1, .slice a1 n1 c1, .bool false, .slice b1 m1 d1]:=rfl;have hY:=Arr.new w2 97 (ratL false none 0 0 false none 0 0)
    go_upto_region 6 with (refine wl_stArr (vs:=ratL s1 a1 n1 c1 false b1 m1 d1) rfl rfl rfl rfl rfl agg_Ratio hY rfl (ratL_one _ _ _ _ _ _ _ _) ?_; intro w3 hB3 hg3)
    have hE3:Ext w2 w3:=((Ext.refl w2).alloc _).grownR hg3 (Nat.le_refl _);have hE23:=hE2.trans hE3;have hEw:=hE.trans hE23;have hO3:=hO.ext hE23;have hU3:=hO3.noU hnu;have HRL:=qh (hO3.len (by omega));have HC3:Hid (∀ i,i<k→RatC w3 (rs.getD i []) ((readQ (l.getD i [])).getD 0)):=qh fun i hi=>(HC.out i hi).ext hE23;have HRC:Hid (RatC w3 (ratL s1 a1 n1 c1 false b1 m1 d1) (o.getD 0)):=qh (RatC.ext ⟨s1,a1,n1,c1,b1,m1,d1,rfl,hrc⟩ hE3);have hlx:w.heap.size<w2.heap.size:=((hO.ext hE2).lt rfl).2;clear hY hg3 hO hE hE2 hE3 hE23 hrc HC HRD c0;generalize w2.heap.size=X at *
    have x0:=hB3.c 0 rfl;have x1:=hB3.c 1 rfl;have x2:=hB3.c 2 rfl;have x3:=hB3.c 3 rfl;cases o with
    | none =>
     go_wp2
     go_ret2
     have:r=none:=by
      rw [←HR.out];unfold rdAll;rw [if_neg];intro h;have:=h k (by rw [HL.out]; exact hlt);rw [HO.out] at this;simp at this
     rw [this];exact ⟨none,0,0,rfl,hEw,RatSl.nil _⟩
    | some q =>
     go_wp2_with (refine wl_stK (vs:=ratL s1 a1 n1 c1 false b1 m1 d1) rfl rfl (by omega) agg_Ratio rfl rfl rfl hO3 hlt rfl (ratL_one _ _ _ _ _ _ _ _) ?_; intro w4 hO4 hg4)
     go_roundw
     case rel =>
      refine ⟨k+1,_,by go_num,by omega,hEw.grownR hg4 (Nat.le_refl _),hO4, ?_,qh fun i hi => ?_,qh fun i hi => ?_⟩
      · intro r hr;rcases List.mem_or_eq_of_mem_set hr with h|rfl
        · exact hnu r h
        · exact ratL_nu _ _ _ _ _ _ _ _
      · by_cases hik:i=k
        · subst hik; rw [HO.out]; rfl
        · exact HK.out i (by omega)
      · by_cases hik:i=k
        · subst hik;rw [HO.out,List.getD_eq_getElem?_getD,List.getElem?_set_self (by rw [HRL.out]; exact hlt)];exact HRC.out.keptU hU3 hg4
        · rw [List.getD_eq_getElem?_getD,List.getElem?_set_ne (by omega),←List.getD_eq_getElem?_getD];exact (HC3.out i (by omega)).keptU hU3 hg4
     case measure=>simp [intOf]; omega
  · have hkn:k=n:=by omega
    subst hkn;go_wp2
    go_ret2
    have hr:r=some (l.map (fun t=>(readQ t).getD 0)):=by
     rw [←HR.out];unfold rdAll;rw [if_pos];intro i hi;exact HK.out i (by rw [←HL.out]; exact hi)
    rw [hr];refine ⟨_,_,_,rfl,hE,rs,hO.slk (by omega),by simp [HL.out],fun i hi => ?_⟩;have:=HC.out i hi;simpa [List.getD_eq_getElem?_getD,HL.out,hi] using this
end Go.Proofs.YtlpgonpfjbhmfaaGreatDoor
namespace Go.Proofs.YtlpgonpfjbhmfaaGreatDoor.Pl
theorem rat_mlc (a b c:Rat):a*(b*c)=b*(a*c):=by rw [←Rat.mul_assoc,Rat.mul_comm a b,Rat.mul_assoc]
def grt (l:List Tm) (v:Nat):Nat:=l.foldl (fun a t=>max a (t.1.getD v 0).toNat) 0
theorem grt_foldl (v:Nat):∀ (l:List Tm) (a:Nat),a≤l.foldl (fun a t=>max a (t.1.getD v 0).toNat) a∧∀ t∈l,(t.1.getD v 0).toNat≤l.foldl (fun a t=>max a (t.1.getD v 0).toNat) a
 | [],a=>⟨Nat.le_refl _,by simp⟩
 | t :: r,a=>by
  have h:=grt_foldl v r (max a (t.1.getD v 0).toNat);refine ⟨Nat.le_trans (Nat.le_max_left _ _) h.1,fun s hs => ?_⟩;rcases List.mem_cons.1 hs with rfl|hs
  · exact Nat.le_trans (Nat.le_max_right _ _) h.1
  · exact h.2 s hs
theorem le_grt {l:List Tm} {t:Tm} (v:Nat) (h:t∈l):(t.1.getD v 0).toNat≤grt l v:=(grt_foldl v l 0).2 t h
theorem grt_take (l:List Tm) (v k:Nat) (hk:k<l.length):grt (l.take (k+1)) v=max (grt (l.take k) v) ((l.getD k ([],0)).1.getD v 0).toNat:=by
 unfold grt;rw [List.take_succ_eq_append_getElem hk,List.foldl_append];simp [List.getD_eq_getElem?_getD,hk]
def pwz (x:Rat) (g e:Nat):Int:=x.num^e*(x.den:Int)^(g-e)
theorem pw_cast_int (z:Int):∀ e:Nat,((z^e:Int):Rat)=(z:Rat)^e
 | 0=>by rw [Int.pow_zero,Rat.pow_zero]; rfl
 | e+1=>by rw [Int.pow_succ,Rat.pow_succ,Rat.intCast_mul,pw_cast_int z e]
theorem pw_mul (a b:Rat):∀ e:Nat,(a*b)^e=a^e*b^e
 | 0=>by simp [Rat.pow_zero]
 | e+1=>by rw [Rat.pow_succ,Rat.pow_succ,Rat.pow_succ,pw_mul a b e]; simp only [Rat.mul_assoc,Rat.mul_comm,rat_mlc]
theorem pw_add (a:Rat) (i:Nat):∀ j:Nat,a^(i+j)=a^i*a^j
 | 0=>by simp [Rat.pow_zero]
 | j+1=>by rw [←Nat.add_assoc,Rat.pow_succ,Rat.pow_succ,pw_add a i j,Rat.mul_assoc]
theorem pwz_is {x:Rat} {g e:Nat} (h:e≤g):((pwz x g e:Int):Rat)=x^e*(x.den:Rat)^g:=by
 unfold pwz;rw [Rat.intCast_mul,pw_cast_int,pw_cast_int,←q_den x,pw_mul,Rat.intCast_natCast,Rat.mul_assoc,←pw_add,Nat.add_sub_cancel' h]
def valE (pt:List Rat) (es:List Int):Nat→Rat
 | 0=>1
 | k+1=>valE pt es k*(pt.getD k 0)^(es.getD k 0).toNat
def evq (pt:List Rat) (l:List Tm):Rat:=l.foldr (fun t a=>t.2*valE pt t.1 pt.length+a) 0
def zev (d:Nat) (g:Nat→Nat) (pt:List Rat) (t:Tm):Nat→Int
 | 0=>zsc t.2 d
 | k+1=>zev d g pt t k*pwz (pt.getD k 0) (g k) (t.1.getD k 0).toNat
def dev (d:Nat) (g:Nat→Nat) (pt:List Rat):Nat→Nat
 | 0=>d
 | k+1=>dev d g pt k*(pt.getD k 0).den^(g k)
theorem pw_cast_nat (z:Nat):∀ e:Nat,((z^e:Nat):Rat)=(z:Rat)^e
 | 0=>by rw [Nat.pow_zero,Rat.pow_zero]; rfl
 | e+1=>by rw [Nat.pow_succ,Rat.pow_succ,Rat.natCast_mul,pw_cast_nat z e]
theorem zev_is {d:Nat} {g:Nat→Nat} {pt:List Rat} {t:Tm} (hd:t.2.den∣d):∀ k,(∀ v,v<k→(t.1.getD v 0).toNat≤g v)→((zev d g pt t k:Int):Rat)=t.2*valE pt t.1 k*(dev d g pt k:Rat)
 | 0,_=>by
  unfold zev valE dev;rw [zsc_is hd,Rat.mul_one]
 | k+1,h=>by
  unfold zev valE dev;rw [Rat.intCast_mul,zev_is hd k (fun v hv=>h v (by omega)),pwz_is (h k (by omega)),Rat.natCast_mul,pw_cast_nat];simp only [Rat.mul_assoc,Rat.mul_comm,rat_mlc]
theorem dev_ne {d:Nat} {g:Nat→Nat} {pt:List Rat} (hd:d≠0):∀ k,dev d g pt k≠0
 | 0=>hd
 | k+1=>Nat.mul_ne_zero (dev_ne hd k) (Nat.ne_of_gt (Nat.pow_pos (pt.getD k 0).den_pos))
def zsum (f:Tm→Int) (l:List Tm):Int:=l.foldl (fun a t=>a+f t) 0
theorem zsum_foldl (f:Tm→Int):∀ (l:List Tm) (a:Int),l.foldl (fun a t=>a+f t) a=a+l.foldr (fun t a=>f t+a) 0
 | [],a=>by simp
 | t :: r,a=>by rw [List.foldl_cons,zsum_foldl f r,List.foldr_cons]; omega
theorem zsum_take (f:Tm→Int) (l:List Tm) (k:Nat) (hk:k<l.length):zsum f (l.take (k+1))=zsum f (l.take k)+f (l.getD k ([],0)):=by
 unfold zsum;rw [List.take_succ_eq_append_getElem hk,List.foldl_append];simp [List.getD_eq_getElem?_getD,hk]
theorem ev_sum {d:Nat} {g:Nat→Nat} {pt:List Rat}:∀ {l:List Tm},(∀ t∈l,t.2.den∣d∧∀ v,v<pt.length→(t.1.getD v 0).toNat≤g v)→((l.foldr (fun t a=>zev d g pt t pt.length+a) 0:Int):Rat)=evq pt l*(dev d g pt pt.length:Rat)
 | [],_=>by simp [evq]
 | t :: r,h=>by
  have ih:=ev_sum (l:=r) (fun s hs=>h s (by simp [hs]));have ht:=h t (by simp);unfold evq at ih ⊢;rw [List.foldr_cons,List.foldr_cons,Rat.intCast_add,ih,zev_is ht.1 _ ht.2,Rat.add_mul]
theorem ev_done {d:Nat} {pt:List Rat} {l:List Tm} (hd:d≠0) (h:∀ t∈l,t.2.den∣d) :
 mkRat (zsum (fun t=>zev d (grt l) pt t pt.length) l) (dev d (grt l) pt pt.length)=evq pt l:=by
 have h0:=dev_ne (g:=grt l) (pt:=pt) hd pt.length;rw [mkRat_div];unfold zsum;rw [zsum_foldl,Int.zero_add,ev_sum (fun t ht=>⟨h t ht,fun v _=>le_grt v ht⟩),Rat.mul_assoc,Rat.mul_inv_cancel _ (by simpa using h0),Rat.mul_one]
end Go.Proofs.YtlpgonpfjbhmfaaGreatDoor.Pl
