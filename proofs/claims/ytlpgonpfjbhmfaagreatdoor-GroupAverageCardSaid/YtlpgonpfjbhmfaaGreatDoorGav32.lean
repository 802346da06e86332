/- Part Gav32. -/
import Derived.Test.YtlpgonpfjbhmfaaGreatDoorGav31
import Derived.Test.YtlpgonpfjbhmfaaGreatDoorGav29
set_option maxRecDepth 100000
set_option maxHeartbeats 100000000
namespace Go.Proofs.YtlpgonpfjbhmfaaGreatDoor
open Tryz Go Go.RowKit
variable {vars:Int} {c n:Nat} {A a:Option Addr} {w:World}
theorem Fu {k:Nat}:∀ (rows:List (List Value)),(∀ r∈rows,r.length=k)→∀ i o (vs:List Value),o+vs.length≤k→i<rows.length →
 rows.flatten.take (i*k+o) ++ vs ++ rows.flatten.drop (i*k+o+vs.length)=(rows.set i ((rows.getD i []).take o ++ vs ++ (rows.getD i []).drop (o+vs.length))).flatten
 | [],_,i,o,vs,_,hi=>by simp at hi
 | r :: rest,h,0,o,vs,hv,_=>by
  have hr:r.length=k:=h r (by simp);simp only [Nat.zero_mul,Nat.zero_add,List.flatten_cons,List.set_cons_zero,List.getD_cons_zero];rw [List.take_append_of_le_length (by omega),List.drop_append_of_le_length (by omega),←List.append_assoc]
 | r :: rest,h,i+1,o,vs,hv,hi=>by
  have hr:r.length=k:=h r (by simp);have ih:=Fu rest (fun x hx=>h x (by simp [hx])) i o vs hv (by simpa using hi);have e:(i+1)*k+o=k+(i*k+o):=by rw [Nat.add_mul]; omega
  have e2:k+(i*k+o)+vs.length=k+(i*k+o+vs.length):=by omega
  simp only [List.flatten_cons,List.set_cons_succ,List.getD_cons_succ,e,e2];rw [←ih,←hr,List.take_length_add_append,List.drop_length_add_append];simp
section
variable {w:World} {base:Nat} {e:TypeId} {k g n:Nat} {rows:List (List Value)}
theorem A3.arrK (h:A3 w base e k (some ⟨g,0,none⟩) n n rows):Arr w g e rows.flatten:=by
 rcases h.2.2 with ⟨hv,_⟩|⟨g',cap,cur,hv,hb,hh,hnc,hm,hs,htk⟩
 · simp at hv
 simp only [Value.slice.injEq,Option.some.injEq,Addr.mk.injEq,and_true,true_and] at hv;obtain ⟨rfl,rfl⟩:=hv;have h2:cur.toList=rows.flatten:=by rw [←htk,List.take_of_length_le (by simp [hs])]
 unfold Arr;rw [hh,←h2]
theorem Arr.ownK (h:Arr w g e rows.flatten) (hw:∀ r∈rows,r.length=k) (hn:rows.length=n) (hb:base≤g) (hm:n≤maxLen):A3 w base e k (some ⟨g,0,none⟩) n n rows:=by
 have hl:=Cl rows hw;rw [hn] at hl;refine ⟨hw,by rw [hl],Or.inr ⟨g,n,rows.flatten.toArray,rfl,hb,h,lrf _,hm,by simpa using hl, ?_⟩⟩;simpa using List.take_of_length_le (by rw [hl]; exact lrf _)
end
def Fv (vars:Int) (t:Tx):Prop:=(A8 t.1).isSome=true∧(t.2.length:Int)=vars∧Co t.2=true
def Ci (t:Tx):Pl.Tm:=(Ae t.2,(A8 t.1).getD 0)
def Vk:List Value:=At ze false none 0 0 none 0 0
def PY (w:World) (vars:Int) (ts:List Tx) (e:Ending) (w':World):Prop :=
 (¬ (0≤vars∧vars≤6)∧Gs w 0 [] 3 e w')∨(0≤vars∧vars≤6∧¬ (∀ t∈ts,Fv vars t)∧Gs w 0 [] 1 e w')∨(0≤vars∧vars≤6∧(∀ t∈ts,Fv vars t)∧E0 w (resQ vars (ts.map Ci)) e w')
structure Dv (p:List Pl.Tm):Prop where
 pre:∀ a s,a ++ s=p→∀ e,Pl.RB 2400 (Pl.coef a e)
 each:∀ t∈p,Pl.RB 2400 t.2
 fits:NJ p
theorem Lx {ts:List Tx} (hT:A2 w) (h:CJ w A n c ts) (hs:∀ t∈ts,t.1.length≤570) (hn:n≤1000000) (hok:0≤vars→vars≤6→(∀ t∈ts,Fv vars t)→Dv (ts.map Ci)) :
 Calls prog 42 #[.int .i64 vars, .slice A n c] w (PY w vars ts):=by
 have hlen:=h.len;obtain ⟨rows,hS,_,hq⟩:=h;have HQ:=qh hq;have HL:=qh hlen;have HS:=qh hs;clear hq hlen hs
 go_enter func42,ntmps42
 go_upto_region 1 with (fail)
 refine Bq ?_;intro w0 hE0 hB0 hz0;have hR:Arr w0 w.heap.size 25 (AZ 0 none 0 0):=hB0;have hpz:(AZ 0 none 0 0).toArray=#[.int .i64 0, .slice none 0 0]:=rfl;clear hB0 hz0;by_cases hv:0≤vars∧vars≤6
 · obtain ⟨hv0,hv6⟩:=hv;have HOK:=qh (hok hv0 hv6);clear hok;obtain ⟨vn,rfl⟩:∃ k:Nat,vars=(k:Int):=⟨vars.toNat,by omega⟩;have c1:¬ ((vn:Int)<0):=by omega
   have c2:¬ ((6:Int)<(vn:Int)):=by omega
   have hnu0:nuR (List.replicate n Vk):=fun r hr u hu=>by rw [(List.mem_replicate.1 hr).2] at hu; exact B2 u hu
   go_upto_region 4 with (refine Fm rfl rfl (by kernel_rfl) C0 rfl rfl (by omega) (by unfold maxLen; omega) ?_; intro w1 hO1 hE1)
   obtain ⟨G,hG⟩:∃ G,w0.heap.size=G:=⟨_,rfl⟩;rw [hG] at hO1 ⊢;go_wp2
   go_loopw [23] (fun iv wr=>∃ (k:Nat) (rs:List (List Value)),iv = .int .i64 k∧k≤n∧Ext w0 wr∧A3 wr w0.heap.size 111 10 (some ⟨G,0,none⟩) n n rs∧nuR rs∧Hid (∀ i,i<k→Fv vn (ts.getD i tm0)∧Cm wr (rs.getD i []) (Ci (ts.getD i tm0)))∧Hid (∀ i,k≤i→i<n→rs.getD i []=Vk)) (fun iv _=>n-(intOf iv).toNat)
   case atStart=>exact ⟨0,_,rfl,Nat.zero_le _,hE1,by rw [hG]; exact hO1,hnu0,qh (fun i hi=>absurd hi (by omega)),qh (fun i _ hi=>by simp [hi,Vk,ze])⟩
   case round =>
    clear hO1 hE1 hnu0;obtain ⟨k,rs,rfl,hk,hE,hO,hnu,HC,HZ⟩:=hrel;have hEw:=hE0.trans hE;by_cases hlt:k<n
    · have hSw:=hS.ext hEw;obtain ⟨b,off,rfl,hcl⟩:=hSw.rd (by omega);obtain ⟨s,ax,nx,cx,hrow,hst,hxs⟩:=HQ.out k hlt;have hY:=Arr.new wr 60 (tmL ⟨#[]⟩ none 0 0);have hrow':rows.getD k []=tmL s ax nx cx:=hrow
      go_upto_region 7 with (first
       | (refine CZ rfl rfl Cy rfl hSw hlt ?_; rw [hrow'])
       | (refine Aa (vs:=tmL s ax nx cx) rfl rfl rfl rfl rfl Cy hY rfl (EL _ _ _ _) ?_; intro w2 hB2 hg2))
      have hE2:Ext wr w2:=((Ext.refl wr).alloc _).grownR hg2 (lrf _);have hO2:=hO.ext hE2;have HC2:Hid (∀ i,i<k→Fv vn (ts.getD i tm0)∧Cm w2 (rs.getD i []) (Ci (ts.getD i tm0))):=qh fun i hi=>⟨(HC.out i hi).1,(HC.out i hi).2.ext hE2⟩;have hE02:=hE.trans hE2;have hEw2:=hE0.trans hE02;have hxs2:=hxs.ext hEw2;have HMEM:Hid (ts.getD k tm0∈ts):=qh (by simp [HL.out,hlt]);have hsz:s.size≤570:=by rw [←AJ,hst]; exact HS.out _ HMEM.out
      have hrd:=qh (GX (w:=w2) (hT.ext hEw2) hsz);rw [hst] at hrd;obtain ⟨t,HTT⟩:∃ t,Hid (ts.getD k tm0=t):=⟨_,qh rfl⟩;rw [HTT.out] at hrd hxs2 hxs hst HMEM;obtain ⟨t1,t2⟩:=t;simp only at hrd hxs2 hxs hst;obtain ⟨X,hX⟩:∃ x,wr.heap.size=x:=⟨_,rfl⟩;rw [hX] at hB2 ⊢;have hGX:G<X:=by have:=(hO.lt (g:=G) rfl).2; omega
      have y0:=hB2.c 0 rfl;have y1:=hB2.c 1 rfl;clear hY hg2 hO hE hE2 hrow hrow' hcl hSw HC hst hsz
      go_wp2_with fail
      refine hrd.out.mono ?_;rintro e w3 ⟨_,rfl,hE3,s3,a3,n3,c3,b3,m3,d3,rfl,HS3,hx3,hy3⟩;have hYr:=Arr.new w3 97 (An false none 0 0 false none 0 0);have hl3:(An s3 a3 n3 c3 false b3 m3 d3).toArray=#[.bool s3, .slice a3 n3 c3, .bool false, .slice b3 m3 d3]:=rfl
      go_upto_region 8 with (refine Aa (vs:=An s3 a3 n3 c3 false b3 m3 d3) rfl rfl rfl rfl rfl Ac hYr rfl (Ap _ _ _ _ _ _ _ _) ?_; intro w4 hB4 hg4)
      have hE34:Ext w3 w4:=((Ext.refl w3).alloc _).grownR hg4 (lrf _);have hE24:=hE3.trans hE34;have hE04:=hE02.trans hE24;have hEw4:=hE0.trans hE04;have hR4:=hR.ext hE04;have hO4:=hO2.ext hE24;have HC4:Hid (∀ i,i<k→Fv vn (ts.getD i tm0)∧Cm w4 (rs.getD i []) (Ci (ts.getD i tm0))):=qh fun i hi=>⟨(HC2.out i hi).1,(HC2.out i hi).2.ext hE24⟩;have hxs4:=hxs2.ext hE24;have y1:=hE24.cell y1;have hx4:=hx3.ext hE34;have hy4:=hy3.ext hE34;have hlx:=hxs4.len;obtain ⟨Y,hYe⟩:∃ x,w3.heap.size=x:=⟨_,rfl⟩;rw [hYe] at hB4 ⊢;have z0:=hB4.c 0 rfl;have z1:=hB4.c 1 rfl;have z2:=hB4.c 2 rfl
      have z3:=hB4.c 3 rfl;clear hYr hg4 hl3 hE3 hE34 hx3 hy3 hO2 HC2 hxs2 y0 hB2 hrd hE02 hB4 hYe;cases hrq:A8 t1 with
      | none =>
       have HNO:Hid (¬ ∀ t∈ts,Fv vn t):=qh (fun h=>by have:=(h _ HMEM.out).1; rw [hrq] at this; cases this);simp only [Option.isSome_none];clear hrq
       go_wp2_with (refine Aa (vs:=AZ 0 none 0 0) rfl rfl rfl rfl rfl AK hR4 rfl (Bn _ _ _ _) ?_; intro w9 hB9 hg9)
       refine bodyPost_ret (AH rfl AK rfl rfl hB9) rfl ?_;exact Or.inr (Or.inl ⟨hv0,hv6,HNO.out,none,0,0,rfl,hEw4.grownR hg9 (lrf _),TmO.nil _ _⟩)
      | some q =>
       simp only [Option.isSome_some,hrq,Option.getD_some] at HS3 hx4 hy4 ⊢;by_cases hnv:(nx:Int)=vn
       · have hnv':((nx:Int) != (vn:Int))=false:=by simp [hnv]
         cases hvx:Co t2 with
         | false =>
          have HNO:Hid (¬ ∀ t∈ts,Fv vn t):=qh (fun h=>by have:=(h _ HMEM.out).2.2; rw [show ((t1,t2):Tx).2=t2 from rfl,hvx] at this; cases this);have hmv:=qh (EJ hxs4);rw [hvx] at hmv;have HNV:=qh hnv;clear hrq hvx hnv
          go_wp2_with fail
          refine hmv.out.mono ?_;rintro e w5 ⟨rfl,rfl⟩
          go_wp2_with (refine Aa (vs:=AZ 0 none 0 0) rfl rfl rfl rfl rfl AK hR4 rfl (Bn _ _ _ _) ?_; intro w9 hB9 hg9)
          refine bodyPost_ret (AH rfl AK rfl rfl hB9) rfl ?_;exact Or.inr (Or.inl ⟨hv0,hv6,HNO.out,none,0,0,rfl,hEw4.grownR hg9 (lrf _),TmO.nil _ _⟩)
         | true =>
          have HMK:Hid (Fv vn (t1,t2)):=qh ⟨by rw [show ((t1,t2):Tx).1=t1 from rfl,hrq]; rfl,by show (t2.length:Int)=vn; rw [hlx]; exact hnv,hvx⟩;have HMT:Hid (Ci (t1,t2)=(Ae t2,q)):=qh (by show (Ae t2,(A8 t1).getD 0)=_; rw [hrq]; rfl);have hmv:=qh (EJ hxs4);rw [hvx] at hmv;have hn6:nx≤6:=by omega
          have hrz:=HZ.out k (lrf _) hlt;have hrl:=hO4.len (by omega);have hfl:=Cl rs hO4.1;rw [hrl] at hfl
          have HF1:Hid (rs.flatten.take (k*10+6) ++ An s3 a3 n3 c3 false b3 m3 d3 ++ rs.flatten.drop (k*10+6+(An s3 a3 n3 c3 false b3 m3 d3).length)=(rs.set k (At ze s3 a3 n3 c3 b3 m3 d3)).flatten):=qh (by
           rw [Fu rs hO4.1 k 6 (An s3 a3 n3 c3 false b3 m3 d3) (by simp [An,Ab]) (by omega),hrz]
           rfl)
          have hw1:∀ r∈rs.set k (At ze s3 a3 n3 c3 b3 m3 d3),r.length=10:=fun r hr=>by
           rcases List.mem_or_eq_of_mem_set hr with h|h
           · exact hO4.1 r h
           · rw [h,Dl]; rfl
          have HF2:Hid ((rs.set k (At ze s3 a3 n3 c3 b3 m3 d3)).flatten.take (k*10) ++ t2.map (Value.int .i64) ++ (rs.set k (At ze s3 a3 n3 c3 b3 m3 d3)).flatten.drop (k*10+nx)=(rs.set k (At (Ae t2) s3 a3 n3 c3 b3 m3 d3)).flatten):=qh (by
           have h1:=Fu (rs.set k (At ze s3 a3 n3 c3 b3 m3 d3)) hw1 k 0 (t2.map (Value.int .i64)) (by simp; omega) (by simp; omega);rw [Nat.add_zero,List.length_map,hlx] at h1;rw [h1,List.set_set];congr 2;have e1:(rs.set k (At ze s3 a3 n3 c3 b3 m3 d3)).getD k []=At ze s3 a3 n3 c3 b3 m3 d3:=by rw [gqq,List.getElem?_set_self (by omega)]; rfl
           rw [e1,List.take_zero,List.nil_append,Nat.zero_add];unfold At Ae;have hz:ze=List.replicate 6 0:=rfl
           rw [hz,List.map_replicate,List.map_append,List.map_replicate,List.drop_append,List.drop_replicate,hlx,List.length_replicate,show nx-6=0 by omega,List.drop_zero,List.append_assoc])
          have hA4:=hO4.arrK;have HNV:=qh hnv;have HO1:=qh hO4.1;have hGlt:=(hO4.lt (g:=G) rfl);have hU4:=hO4.noU hnu;have hkn:(k:Int)<n:=by omega
          have hXG:X≠G:=by omega
          clear hrq hvx hnv hrz hO4
          go_wp2_with fail
          refine hmv.out.mono ?_;rintro e w5 ⟨rfl,rfl⟩;clear hmv
          go_upto_region 11 with (refine Cn rfl rfl (An s3 a3 n3 c3 false b3 m3 d3) _ (by kernel_rfl) rfl rfl rfl hA4 (by rw [hfl]; simp [An,Ab]; omega) (Ap _ _ _ _ _ _ _ _) HF1.out ?_; intro w5 hA5 hg5)
          have nu1:∀ v∈(rs.set k (At ze s3 a3 n3 c3 b3 m3 d3)).flatten,∀ i,v ≠ .int .u64 i:=fun v hv=>by
           obtain ⟨r,hr,hu⟩:=List.mem_flatten.1 hv;rcases List.mem_or_eq_of_mem_set hr with h|h
           · exact hnu r h v hu
           · rw [h] at hu; exact B2 v hu
          have hwG:w.heap.size≤G:=by have:=hE0.size; omega
          have hEw5:=hEw4.grownR hg5 hwG;have hE05:=hE04.grownR hg5 (Nat.le_of_eq hG);have hxs5:=hxs.ext hEw5;have yy:w5.cell? ⟨X,1,none⟩=some (.slice ax nx cx):=by rw [World.cell?_of_block (w:=w4) (hg5.block X (World.block_lt_of_cell? w4 ⟨X,1,none⟩ y1) (by simp; omega)),y1]
          have HC5:Hid (∀ i,i<k→Fv vn (ts.getD i tm0)∧Cm w5 (rs.getD i []) (Ci (ts.getD i tm0))):=qh fun i hi=>⟨(HC4.out i hi).1,(HC4.out i hi).2.keptU hU4 hg5⟩;have hx5:=hx4.keptU hU4 hg5;have hy5:=hy4.keptU hU4 hg5;have hfl5:=Cl _ hw1;rw [List.length_set,hrl] at hfl5;clear y1 z0 z1 z2 z3 hA4 hU4 hg5 HC4 hx4 hy4 hxs4 hR4 hE04 hEw4 HF1 hfl
          go_still_tail 7,(by kernel_rfl)
          change wpList _ _ _ _ _ w5.drew;have hA6:Arr w5.drew G 111 (rs.set k (At ze s3 a3 n3 c3 b3 m3 d3)).flatten:=hA5;have hdr:=(Ext.refl w5).drew;have hxs6:=hxs5.ext hdr;have hE06:=hE05.trans hdr;have HC6:Hid (∀ i,i<k→Fv vn (ts.getD i tm0)∧Cm w5.drew (rs.getD i []) (Ci (ts.getD i tm0))):=qh fun i hi=>⟨(HC5.out i hi).1,(HC5.out i hi).2.ext hdr⟩;have hx6:=hx5.ext hdr;have hy6:=hy5.ext hdr;clear hA5 hxs5 hE05 hEw5 HC5 hx5 hy5 hdr yy;generalize w5.drew=w6 at *
          have hU6:=hA6.noU nu1
          go_wp2_with (refine Ka (sT:=22) rfl rfl underlying22 GY rfl rfl hA6 hxs6 hn6 (by rw [hfl5]; omega) (A6 _) ?_; intro w7 hA7 hg7; rw [HF2.out] at hA7)
          go_roundw
          case rel =>
           have hw2:∀ r∈rs.set k (At (Ae t2) s3 a3 n3 c3 b3 m3 d3),r.length=10:=fun r hr=>by
            rcases List.mem_or_eq_of_mem_set hr with h|h
            · exact HO1.out r h
            · rw [h,Dl,AQ (by omega)]
           refine ⟨k+1,rs.set k (At (Ae t2) s3 a3 n3 c3 b3 m3 d3),by go_num,by omega,hE06.grownR hg7 (Nat.le_of_eq hG),hA7.ownK hw2 (by rw [List.length_set]; exact hrl) (Nat.le_of_eq hG) (by unfold maxLen; omega), ?_,qh fun i hi => ?_,qh fun i h1 h2 => ?_⟩
           · intro r hr u hu;rcases List.mem_or_eq_of_mem_set hr with h|h
             · exact hnu r h u hu
             · rw [h] at hu; exact B2 u hu
           · by_cases hik:i=k
             · subst hik;rw [HTT.out];refine ⟨HMK.out, ?_⟩;rw [HMT.out,gqq,List.getElem?_set_self (by omega)];exact Cm.keptU ⟨s3,a3,n3,c3,b3,m3,d3,rfl,AQ (by show t2.length≤6; omega),s3,a3,n3,c3,b3,m3,d3,rfl,HS3,hx6,hy6⟩ hU6 hg7
             · rw [gqq (l:=rs.set _ _),List.getElem?_set_ne (by omega),←gqq];exact ⟨(HC6.out i (by omega)).1,(HC6.out i (by omega)).2.keptU hU6 hg7⟩
           · rw [gqq (l:=rs.set _ _),List.getElem?_set_ne (by omega),←gqq];exact HZ.out i (by omega) h2
          case measure=>simp [intOf]; omega
       · have HNO:Hid (¬ ∀ t∈ts,Fv vn t):=qh (fun h=>hnv (by have:=(h _ HMEM.out).2.1; rw [←hlx]; exact this));have hnv':((nx:Int) != (vn:Int))=true:=by simpa using hnv
         clear hrq hnv
         go_wp2_with (refine Aa (vs:=AZ 0 none 0 0) rfl rfl rfl rfl rfl AK hR4 rfl (Bn _ _ _ _) ?_; intro w9 hB9 hg9)
         refine bodyPost_ret (AH rfl AK rfl rfl hB9) rfl ?_;exact Or.inr (Or.inl ⟨hv0,hv6,HNO.out,none,0,0,rfl,hEw4.grownR hg9 (lrf _),TmO.nil _ _⟩)
    · have hkn:k=n:=by omega
      subst hkn
      have HALL:Hid (∀ t∈ts,Fv vn t):=qh (fun t ht=>by
       obtain ⟨i,hi,rfl⟩:=List.mem_iff_getElem.1 ht;have:=(HC.out i (by rw [←HL.out]; exact hi)).1;rw [gqq,List.getElem?_eq_getElem hi] at this
       exact this)
      have hSK:=HOK.out HALL.out;have HSK:=qh hSK
      have hES:Cx wr (some ⟨G,0,none⟩) k k (ts.map Ci):=⟨rs,hO.slk (by omega),by simp [HL.out],fun i hi=>by
       have h1:=(HC.out i hi).2;have h2:(ts.map Ci).getD i ([],0)=Ci (ts.getD i tm0):=by simp [HL.out,hi]
       rw [h2]; exact h1⟩
      have hEa:=(Ext.refl wr).alloc (.cells #[.slice (some ⟨G,0,none⟩) k k] 61);have hLL:Lq (wr.alloc (.cells #[.slice (some ⟨G,0,none⟩) k k] 61)) (some ⟨wr.heap.size,0,none⟩) 1 1 [ts.map Ci]:=by
       refine ⟨[.slice (some ⟨G,0,none⟩) k k],(Au wr wr.heap.size 61 #[.slice (some ⟨G,0,none⟩) k k] 1 rfl (lrf _) (by omega)).sl,rfl,fun i hi => ?_⟩;have:i=0:=by omega
       subst this;exact ⟨_,k,k,rfl,hES.ext hEa⟩
      have hfl1:[ts.map Ci].flatten=ts.map Ci:=by simp
      have HCO:=qh (Ms ((hT.ext hEw).ext hEa) hLL (by omega) (by rw [hfl1]; exact hSK.fits.len) (by rw [hfl1]; exact hSK.pre) (by rw [hfl1]; exact hSK.each));rw [hfl1] at HCO;have hE0a:=hE.trans hEa;have hRa:=hR.ext hE0a;clear hSK hES hLL hO HC HZ hfl1
      go_wp2_with fail
      refine HCO.out.mono ?_;rintro e w3 ⟨out,⟨a3,n3,c3,rfl,hE3,hO3⟩,hnr,hcf⟩;have hfo:=HSK.out.fits.out hnr hcf;have hlo:=hO3.len;have HWR:=qh (OX (vars:=vn) (w0:=w0) (hT.ext hE0) (hE0a.trans hE3) (hO3.mono hE0a.size) (by omega) hfo.1 hfo.2.1 (by omega));have HNR:=qh (And.intro hnr hcf);clear hnr hcf hfo HCO
      go_wp2_with fail
      refine HWR.out.mono ?_;intro e w7 hw;have hq:=PX.q (p:=ts.map Ci) hw HNR.out.1 HNR.out.2;obtain ⟨rr,HRR⟩:∃ r,Hid (resQ (vn:Int) (ts.map Ci)=r):=⟨_,qh rfl⟩;rw [HRR.out] at hq;obtain ⟨a7,n7,c7,rfl,hE7,hO7⟩:=hq;have hpv:Kb rr.1 a7 n7 c7 = .agg #[.int .i64 rr.1, .slice a7 n7 c7]:=rfl;rw [hpv];have hpl:(AZ rr.1 a7 n7 c7).toArray=#[.int .i64 rr.1, .slice a7 n7 c7]:=rfl;have hR7:=hR.ext hE7;clear hw HWR
      go_wp2_with (refine Aa (vs:=AZ rr.1 a7 n7 c7) rfl rfl rfl rfl rfl AK hR7 rfl (Bn _ _ _ _) ?_; intro w8 hB8 hg8)
      refine bodyPost_ret (AH rfl AK rfl rfl hB8) rfl ?_;exact Or.inr (Or.inr ⟨hv0,hv6,HALL.out,by rw [HRR.out]; exact Kh hE0 hE7 hO7 hR7 hg8 (lrf _)⟩)
 · have HF:Hid (∀ e w',Gs w 0 [] 3 e w'→PY w vars ts e w'):=qh (fun e w' h=>Or.inl ⟨hv,h⟩);have hcase:vars<0∨(¬ vars<0∧6<vars):=by omega
   clear hv hok;rcases hcase with h1|⟨h1,h2⟩
   all_goals
    go_wp2_with (refine Aa (vs:=AZ 0 none 0 0) rfl rfl rfl rfl rfl AK hR rfl (Bn _ _ _ _) ?_; intro w9 hB9 hg9)
    refine bodyPost_ret (AH rfl AK rfl rfl hB9) rfl ?_;exact HF.out _ _ ⟨none,0,0,rfl,hE0.grownR hg9 (lrf _),TmO.nil _ _⟩
noncomputable def degP (vars:Int) (ts:List Tx):Int:=if (rdP vars ts).isSome=true∧0<ts.length then Ic (ts.getD 0 tm0).2 else -1
def Ki (w:World) (a:Option Addr) (n c:Nat) (l:List (List UInt8)):Prop:=∃ cs,Sl w a n c cs∧l.length=n∧∀ i,i<n→∃ s,cs.getD i undef = .string s∧Am s=l.getD i []
theorem Ki.ext {w w':World} {a:Option Addr} {n c:Nat} {l:List (List UInt8)} (h:Ki w a n c l) (e:Ext w w'):Ki w' a n c l:=by
 obtain ⟨cs,h1,h2,h3⟩:=h;exact ⟨cs,h1.ext e,h2,h3⟩
open Classical in
noncomputable def rdAll (l:List (List UInt8)):Option (List Rat):=if ∀ i,i<l.length→(A8 (l.getD i [])).isSome=true then some (l.map (fun t=>(A8 t).getD 0)) else none
def VY (w:World) (o:Option (List Rat)) (e:Ending) (w':World):Prop:=∃ a n c,e = .returned (.tuple #[.slice a n c, .bool o.isSome])∧Ext w w'∧Em w' a n c (o.getD [])
theorem Em.nil (w:World):Em w none 0 0 []:=⟨[],SlK.nil w 4,rfl,fun i hi=>absurd hi (by omega)⟩
theorem NM {l:List (List UInt8)} (hT:A2 w) (h:Ki w a n c l) (hs:∀ t∈l,t.length≤570) (hn:n≤1000000) :
 Calls prog 52 #[.slice a n c] w (VY w (rdAll l)):=by
 obtain ⟨cs,hS,hl,hq⟩:=h;have HQ:=qh hq;have HL:=qh hl;have HS:=qh hs;clear hq hl hs;obtain ⟨r,hr⟩:∃ r,rdAll l=r:=⟨_,rfl⟩;rw [hr];have HR:=qh hr;clear hr;have hnu0:nuR (List.replicate n (An false none 0 0 false none 0 0)):=fun r hr u hu=>by rw [(List.mem_replicate.1 hr).2] at hu; exact AC _ _ _ _ _ _ _ _ u hu
 go_enter func52,ntmps52
 go_upto_region 2 with (refine Fm rfl rfl (by kernel_rfl) JW rfl rfl (by omega) (by unfold maxLen; omega) ?_; intro w1 hO1 hE1)
 go_wp2
 go_loopw [14] (fun iv wr=>∃ (k:Nat) (rs:List (List Value)),iv = .int .i64 k∧k≤n∧Ext w wr∧A3 wr w.heap.size 97 4 (some ⟨w.heap.size,0,none⟩) n n rs∧nuR rs∧Hid (∀ i,i<k→(A8 (l.getD i [])).isSome=true)∧Hid (∀ i,i<k→DD wr (rs.getD i []) ((A8 (l.getD i [])).getD 0))) (fun iv _=>n-(intOf iv).toNat)
 case atStart=>exact ⟨0,_,rfl,Nat.zero_le _,hE1,hO1,hnu0,qh (fun i hi=>absurd hi (by omega)),qh (fun i hi=>absurd hi (by omega))⟩
 case round =>
  clear hO1 hE1 hnu0;obtain ⟨k,rs,rfl,hk,hE,hO,hnu,HK,HC⟩:=hrel;by_cases hlt:k<n
  · have hSw:=hS.ext hE;obtain ⟨b,off,rfl,hcl⟩:=hSw.rd (by omega);obtain ⟨s,hcs,hst⟩:=HQ.out k hlt;have c0:=hcl k hlt;rw [hcs] at c0;have hsz:s.size≤570:=by
     rw [←AJ,hst];exact HS.out _ (by simp [HL.out,hlt])
    have hrd:=GX (hT.ext hE) hsz;rw [hst] at hrd;have HRD:=qh hrd;clear hrd hcl hcs hst hSw;obtain ⟨o,HO⟩:∃ o,Hid (A8 (l.getD k [])=o):=⟨_,qh rfl⟩;rw [HO.out] at HRD
    go_wp2_with fail
    refine HRD.out.mono ?_;rintro e w2 ⟨row,rfl,hE2,s1,a1,n1,c1,b1,m1,d1,rfl,hrc⟩;have hl1:(An s1 a1 n1 c1 false b1 m1 d1).toArray=#[.bool s1, .slice a1 n1 c1, .bool false, .slice b1 m1 d1]:=rfl;have hY:=Arr.new w2 97 (An false none 0 0 false none 0 0)
    go_upto_region 6 with (refine Aa (vs:=An s1 a1 n1 c1 false b1 m1 d1) rfl rfl rfl rfl rfl Ac hY rfl (Ap _ _ _ _ _ _ _ _) ?_; intro w3 hB3 hg3)
    have hE3:Ext w2 w3:=((Ext.refl w2).alloc _).grownR hg3 (lrf _);have hE23:=hE2.trans hE3;have hEw:=hE.trans hE23;have hO3:=hO.ext hE23;have hU3:=hO3.noU hnu;have HRL:=qh (hO3.len (by omega));have HC3:Hid (∀ i,i<k→DD w3 (rs.getD i []) ((A8 (l.getD i [])).getD 0)):=qh fun i hi=>(HC.out i hi).ext hE23;have HRC:Hid (DD w3 (An s1 a1 n1 c1 false b1 m1 d1) (o.getD 0)):=qh (DD.ext ⟨s1,a1,n1,c1,b1,m1,d1,rfl,hrc⟩ hE3);have hlx:w.heap.size<w2.heap.size:=((hO.ext hE2).lt rfl).2;clear hY hg3 hO hE hE2 hE3 hE23 hrc HC HRD c0;generalize w2.heap.size=X at *
    have x0:=hB3.c 0 rfl;have x1:=hB3.c 1 rfl;have x2:=hB3.c 2 rfl;have x3:=hB3.c 3 rfl;cases o with
    | none =>
     go_wp2
     go_ret2
     have:r=none:=by
      rw [←HR.out];unfold rdAll;rw [if_neg];intro h;have:=h k (by rw [HL.out]; exact hlt);rw [HO.out] at this;simp at this
     rw [this];exact ⟨none,0,0,rfl,hEw,Em.nil _⟩
    | some q =>
     go_wp2_with (refine JV (vs:=An s1 a1 n1 c1 false b1 m1 d1) rfl rfl (by omega) Ac rfl rfl rfl hO3 hlt rfl (Ap _ _ _ _ _ _ _ _) ?_; intro w4 hO4 hg4)
     go_roundw
     case rel =>
      refine ⟨k+1,_,by go_num,by omega,hEw.grownR hg4 (lrf _),hO4, ?_,qh fun i hi => ?_,qh fun i hi => ?_⟩
      · intro r hr;rcases List.mem_or_eq_of_mem_set hr with h|rfl
        · exact hnu r h
        · exact AC _ _ _ _ _ _ _ _
      · by_cases hik:i=k
        · subst hik; rw [HO.out]; rfl
        · exact HK.out i (by omega)
      · by_cases hik:i=k
        · subst hik;rw [HO.out,gqq,List.getElem?_set_self (by rw [HRL.out]; exact hlt)];exact HRC.out.keptU hU3 hg4
        · rw [gqq,List.getElem?_set_ne (by omega),←gqq];exact (HC3.out i (by omega)).keptU hU3 hg4
     case measure=>simp [intOf]; omega
  · have hkn:k=n:=by omega
    subst hkn;go_wp2
    go_ret2
    have hr:r=some (l.map (fun t=>(A8 t).getD 0)):=by
     rw [←HR.out];unfold rdAll;rw [if_pos];intro i hi;exact HK.out i (by rw [←HL.out]; exact hi)
    rw [hr];refine ⟨_,_,_,rfl,hE,rs,hO.slk (by omega),by simp [HL.out],fun i hi => ?_⟩;have:=HC.out i hi;simpa [HL.out,hi] using this
end Go.Proofs.YtlpgonpfjbhmfaaGreatDoor
namespace Go.Proofs.YtlpgonpfjbhmfaaGreatDoor.Pl
variable {d e g:Nat} {x:Rat}
theorem PZ (a b c:Rat):a*(b*c)=b*(a*c):=by rw [←Rat.mul_assoc,Rat.mul_comm a b,Rat.mul_assoc]
def grt (l:List Tm) (v:Nat):Nat:=l.foldl (fun a t=>max a (t.1.getD v 0).toNat) 0
theorem Ly (v:Nat):∀ (l:List Tm) (a:Nat),a≤l.foldl (fun a t=>max a (t.1.getD v 0).toNat) a∧∀ t∈l,(t.1.getD v 0).toNat≤l.foldl (fun a t=>max a (t.1.getD v 0).toNat) a
 | [],a=>⟨lrf _,by simp⟩
 | t :: r,a=>by
  have h:=Ly v r (max a (t.1.getD v 0).toNat);refine ⟨Nat.le_trans (Nat.le_max_left _ _) h.1,fun s hs => ?_⟩;rcases List.mem_cons.1 hs with rfl|hs
  · exact Nat.le_trans (Nat.le_max_right _ _) h.1
  · exact h.2 s hs
theorem le_grt {l:List Tm} {t:Tm} (v:Nat) (h:t∈l):(t.1.getD v 0).toNat≤grt l v:=(Ly v l 0).2 t h
theorem grt_take (l:List Tm) (v k:Nat) (hk:k<l.length):grt (l.take (k+1)) v=max (grt (l.take k) v) ((l.getD k ([],0)).1.getD v 0).toNat:=by
 unfold grt;rw [List.take_succ_eq_append_getElem hk,List.foldl_append];simp [hk]
def pwz (x:Rat) (g e:Nat):Int:=x.num^e*(x.den:Int)^(g-e)
theorem Fw (z:Int):∀ e:Nat,((z^e:Int):Rat)=(z:Rat)^e
 | 0=>by rw [Int.pow_zero,Rat.pow_zero]; rfl
 | e+1=>by rw [Int.pow_succ,Rat.pow_succ,Rat.intCast_mul,Fw z e]
theorem Sw (a b:Rat):∀ e:Nat,(a*b)^e=a^e*b^e
 | 0=>by simp [Rat.pow_zero]
 | e+1=>by rw [Rat.pow_succ,Rat.pow_succ,Rat.pow_succ,Sw a b e]; simp only [Rat.mul_assoc,Rat.mul_comm,PZ]
theorem Sx (a:Rat) (i:Nat):∀ j:Nat,a^(i+j)=a^i*a^j
 | 0=>by simp [Rat.pow_zero]
 | j+1=>by rw [←Nat.add_assoc,Rat.pow_succ,Rat.pow_succ,Sx a i j,Rat.mul_assoc]
theorem Vl (h:e≤g):((pwz x g e:Int):Rat)=x^e*(x.den:Rat)^g:=by
 unfold pwz;rw [Rat.intCast_mul,Fw,Fw,←UH x,Sw,Rat.intCast_natCast,Rat.mul_assoc,←Sx,Nat.add_sub_cancel' h]
def valE (pt:List Rat) (es:List Int):Nat→Rat
 | 0=>1
 | k+1=>valE pt es k*(pt.getD k 0)^(es.getD k 0).toNat
def evq (pt:List Rat) (l:List Tm):Rat:=l.foldr (fun t a=>t.2*valE pt t.1 pt.length+a) 0
def zev (d:Nat) (g:Nat→Nat) (pt:List Rat) (t:Tm):Nat→Int
 | 0=>zsc t.2 d
 | k+1=>zev d g pt t k*pwz (pt.getD k 0) (g k) (t.1.getD k 0).toNat
def dev (d:Nat) (g:Nat→Nat) (pt:List Rat):Nat→Nat
 | 0=>d
 | k+1=>dev d g pt k*(pt.getD k 0).den^(g k)
theorem ID (z:Nat):∀ e:Nat,((z^e:Nat):Rat)=(z:Rat)^e
 | 0=>by rw [Nat.pow_zero,Rat.pow_zero]; rfl
 | e+1=>by rw [Nat.pow_succ,Rat.pow_succ,Rat.natCast_mul,ID z e]
theorem Sy {d:Nat} {g:Nat→Nat} {pt:List Rat} {t:Tm} (hd:t.2.den∣d):∀ k,(∀ v,v<k→(t.1.getD v 0).toNat≤g v)→((zev d g pt t k:Int):Rat)=t.2*valE pt t.1 k*(dev d g pt k:Rat)
 | 0,_=>by
  unfold zev valE dev;rw [Sq hd,Rat.mul_one]
 | k+1,h=>by
  unfold zev valE dev;rw [Rat.intCast_mul,Sy hd k (fun v hv=>h v (by omega)),Vl (h k (by omega)),Rat.natCast_mul,ID];simp only [Rat.mul_assoc,Rat.mul_comm,PZ]
theorem dev_ne {d:Nat} {g:Nat→Nat} {pt:List Rat} (hd:d≠0):∀ k,dev d g pt k≠0
 | 0=>hd
 | k+1=>Nat.mul_ne_zero (dev_ne hd k) (Nat.ne_of_gt (Nat.pow_pos (pt.getD k 0).den_pos))
def zsum (f:Tm→Int) (l:List Tm):Int:=l.foldl (fun a t=>a+f t) 0
theorem zsum_foldl (f:Tm→Int):∀ (l:List Tm) (a:Int),l.foldl (fun a t=>a+f t) a=a+l.foldr (fun t a=>f t+a) 0
 | [],a=>by simp
 | t :: r,a=>by rw [List.foldl_cons,zsum_foldl f r,List.foldr_cons]; omega
theorem zsum_take (f:Tm→Int) (l:List Tm) (k:Nat) (hk:k<l.length):zsum f (l.take (k+1))=zsum f (l.take k)+f (l.getD k ([],0)):=by
 unfold zsum;rw [List.take_succ_eq_append_getElem hk,List.foldl_append];simp [hk]
theorem Sz {d:Nat} {g:Nat→Nat} {pt:List Rat}:∀ {l:List Tm},(∀ t∈l,t.2.den∣d∧∀ v,v<pt.length→(t.1.getD v 0).toNat≤g v)→((l.foldr (fun t a=>zev d g pt t pt.length+a) 0:Int):Rat)=evq pt l*(dev d g pt pt.length:Rat)
 | [],_=>by simp [evq]
 | t :: r,h=>by
  have ih:=Sz (l:=r) (fun s hs=>h s (by simp [hs]));have ht:=h t (by simp);unfold evq at ih ⊢;rw [List.foldr_cons,List.foldr_cons,Rat.intCast_add,ih,Sy ht.1 _ ht.2,Rat.add_mul]
theorem ev_done {pt:List Rat} {l:List Tm} (hd:d≠0) (h:∀ t∈l,t.2.den∣d) :
 mkRat (zsum (fun t=>zev d (grt l) pt t pt.length) l) (dev d (grt l) pt pt.length)=evq pt l:=by
 have h0:=dev_ne (g:=grt l) (pt:=pt) hd pt.length;rw [mkRat_div];unfold zsum;rw [zsum_foldl,Int.zero_add,Sz (fun t ht=>⟨h t ht,fun v _=>le_grt v ht⟩),Rat.mul_assoc,Rat.mul_inv_cancel _ (by simpa using h0),Rat.mul_one]
end Go.Proofs.YtlpgonpfjbhmfaaGreatDoor.Pl
namespace Go.Proofs.YtlpgonpfjbhmfaaGreatDoor
open Tryz Go Go.RowKit
variable {f:Act} {ops:Array Oper} {va:Array Value} {s:Bool} {Q:Exit→Act→World→Prop} {z z':Int} {rest:List Oper} {c i m:Nat} {o:Oper} {x y:Operand} {a:Option Addr}
theorem Lz (w:World):Kd w (Ab false none 0 0) 0:=⟨false,none,0,0,rfl,qh rfl,Wd.nil _⟩
def C5 (w:World) (base g n:Nat) (F:Nat→Int):Prop:=∃ rs,A3 w base 90 2 (some ⟨g,0,none⟩) n n rs∧nuR rs∧∀ i,i<n→Kd w (rs.getD i []) (F i)
section
variable {w w':World} {base g n:Nat} {F G:Nat→Int}
theorem C5.ext (h:C5 w base g n F) (e:Ext w w'):C5 w' base g n F:=by
 obtain ⟨rs,h1,h2,h3⟩:=h;exact ⟨rs,h1.ext e,h2,fun i hi=>(h3 i hi).ext e⟩
theorem C5.congr (h:C5 w base g n F) (e:∀ i,i<n→G i=F i):C5 w base g n G:=by
 obtain ⟨rs,h1,h2,h3⟩:=h;exact ⟨rs,h1,h2,fun i hi=>by rw [e i hi]; exact h3 i hi⟩
theorem C5.mono {base':Nat} (h:C5 w base g n F) (hb:base'≤base):C5 w base' g n F:=by
 obtain ⟨rs,h1,h2,h3⟩:=h;exact ⟨rs,h1.mono hb,h2,h3⟩
theorem C5.noU (h:C5 w base g n F):NoU w g:=by
 obtain ⟨rs,h1,h2,h3⟩:=h;exact h1.noU h2
theorem C5.lt (h:C5 w base g n F):base≤g∧g<w.heap.size:=by
 obtain ⟨rs,h1,h2,h3⟩:=h;exact h1.lt rfl
theorem C5.kept {g':Nat} (h:C5 w base g n F) (hU:NoU w g') (hg:w.grownBy w' (some g')) (hne:g≠g'):C5 w' base g n F:=by
 obtain ⟨rs,h1,h2,h3⟩:=h;exact ⟨rs,h1.kept hg (Or.inr (by simpa [blk] using hne)),h2,fun i hi=>(h3 i hi).keptU hU hg⟩
theorem C5.at (h:C5 w base g n F) {i:Nat} (hi:i<n):∃ s a m c,w.cell? ⟨g,i*2,none⟩=some (.bool s)∧w.cell? ⟨g,i*2+1,none⟩=some (.slice a m c)∧Hid (decide (F i<0)=s)∧Wd w a m c (F i).natAbs:=by
 obtain ⟨rs,h1,h2,h3⟩:=h;obtain ⟨s,a,m,c,hr,hs,hw⟩:=h3 i hi;have hk:=h1.slk (by omega);obtain ⟨b,off,hb,hc⟩:=hk.rd (by omega);simp only [Option.some.injEq,Addr.mk.injEq,and_true] at hb;obtain ⟨rfl,rfl⟩:=hb;have c0:=hc i hi 0 (by omega);have c1:=hc i hi 1 (by omega);rw [hr] at c0 c1;simp only [Ab,List.getD_cons_zero,List.getD_cons_succ,Nat.zero_add,Nat.add_zero] at c0 c1;exact ⟨s,a,m,c,c0,c1,hs,hw⟩
theorem C5.made (h:A3 w base 90 2 (some ⟨g,0,none⟩) n n (List.replicate n (Ab false none 0 0))):C5 w base g n (fun _=>0):=by
 refine ⟨_,h,fun r hr u hu=>by rw [(List.mem_replicate.1 hr).2] at hu; exact Aq _ _ _ _ u hu,fun i hi => ?_⟩;have:(List.replicate n (Ab false none 0 0)).getD i []=Ab false none 0 0:=by simp [hi]
 rw [this];exact Lz w
theorem Mt (hgd:o.guard=none) (ho:o.op = .store 90 x y)
 (hx:f.eval x = .pointer (some ⟨g,i*2,none⟩)) (hy:f.eval y = .agg va) (hva:va=(Ab s a m c).toArray) (h:C5 w base g n F) (hi:i<n) (hs:Hid (decide (z<0)=s)) (hw:Wd w a m c z.natAbs)
 (hK:∀ w',C5 w' base g n (fun j=>if j=i then z else F j)→w.grownBy w' (some g)→wpList prog ops Q rest (f.put o.dst undef) w'):wpList prog ops Q (o :: rest) f w:=by
 have hU:=h.noU;obtain ⟨rs,h1,h2,h3⟩:=h;have hl:=h1.len (by omega);refine JV (vs:=Ab s a m c) hgd ho (by omega) Ad hx hy hva h1 hi rfl (Ai _ _ _ _) fun w' hO hg=>hK w' ⟨_,hO, ?_,fun j hj => ?_⟩ hg
 · intro r hr u hu;rcases List.mem_or_eq_of_mem_set hr with h|h
   · exact h2 r h u hu
   · rw [h] at hu; exact Aq _ _ _ _ u hu
 · by_cases e:j=i
   · subst e;dsimp only;rw [if_pos rfl,gqq,List.getElem?_set_self (by rw [hl]; exact hi)];exact Kd.keptU ⟨s,a,m,c,rfl,hs,hw⟩ hU hg
   · dsimp only;rw [if_neg e,gqq,List.getElem?_set_ne (by omega),←gqq];exact (h3 j hj).keptU hU hg
def Fa (w:World) (g:Nat) (z:Int):Prop:=∃ row,Arr w g 90 row∧Kd w row z
theorem Fa.ext {z:Int} (h:Fa w g z) (e:Ext w w'):Fa w' g z:=by
 obtain ⟨row,h1,h2⟩:=h;exact ⟨row,h1.ext e,h2.ext e⟩
theorem Fa.lt {z:Int} (h:Fa w g z):g<w.heap.size:=by
 obtain ⟨row,h1,h2⟩:=h;exact h1.lt
theorem Fa.noU {z:Int} (h:Fa w g z):NoU w g:=by
 obtain ⟨row,h1,s,a,m,c,rfl,h2⟩:=h;exact h1.noU (Aq _ _ _ _)
theorem Fa.kept {z:Int} {g':Nat} (h:Fa w g z) (hU:NoU w g') (hg:w.grownBy w' (some g')) (hne:g≠g'):Fa w' g z:=by
 obtain ⟨row,h1,h2⟩:=h;exact ⟨row,h1.kept hg (by simpa using hne),h2.keptU hU hg⟩
theorem Fa.at (h:Fa w g z):∃ s a m c,w.cell? ⟨g,0,none⟩=some (.bool s)∧w.cell? ⟨g,1,none⟩=some (.slice a m c)∧Hid (decide (z<0)=s)∧Wd w a m c z.natAbs:=by
 obtain ⟨row,h1,s,a,m,c,rfl,hs,hw⟩:=h;exact ⟨s,a,m,c,h1.cell (i:=0) (by simp [Ab]),h1.cell (i:=1) (by simp [Ab]),hs,hw⟩
theorem P0 (hgd:o.guard=none) (ho:o.op = .store 90 x y)
 (hx:f.eval x = .pointer (some ⟨g,0,none⟩)) (hy:f.eval y = .agg va) (hva:va=(Ab s a m c).toArray) (h:Fa w g z') (hs:Hid (decide (z<0)=s)) (hw:Wd w a m c z.natAbs)
 (hK:∀ w',Fa w' g z→w.grownBy w' (some g)→wpList prog ops Q rest (f.put o.dst undef) w'):wpList prog ops Q (o :: rest) f w:=by
 have hU:=h.noU;obtain ⟨row,h1,s',a',m',c',rfl,_⟩:=h;exact Aa (vs:=Ab s a m c) hgd ho hx hy hva Ad h1 rfl (Ai _ _ _ _) fun w' hO hg=>hK w' ⟨_,hO,Kd.keptU ⟨s,a,m,c,rfl,hs,hw⟩ hU hg⟩ hg
theorem Fa.new (w:World):Fa (w.alloc (.cells (Ab false none 0 0).toArray 90)) w.heap.size 0:=⟨_,Arr.new w _ _,Lz _⟩
end
end Go.Proofs.YtlpgonpfjbhmfaaGreatDoor
