/- Part Gav34. -/
import Derived.Test.YtlpgonpfjbhmfaaGreatDoorGav31
import Derived.Test.YtlpgonpfjbhmfaaGreatDoorGav33
import Derived.Test.YtlpgonpfjbhmfaaGreatDoorGav32
import Derived.Test.YtlpgonpfjbhmfaaGreatDoorGav29
set_option maxRecDepth 100000
set_option maxHeartbeats 100000000
namespace Go.Proofs.YtlpgonpfjbhmfaaGreatDoor
open Tryz Go Go.RowKit
variable {B va vars vb:Int} {l:List Int} {c d k m n nt:Nat} {a b:Option Addr} {q:Rat} {w:World}
theorem NN (k:Nat):∀ (l:List Int) (s:Int),s≤24→Ds s (l ++ List.replicate k 0)=Ds s l
 | [],s,hs=>by
  induction k with
  | zero=>rfl
  | succ k ih =>
   rw [List.nil_append,List.replicate_succ];unfold Ds;rw [if_neg (by omega),Int.add_zero,←List.nil_append (List.replicate k 0),ih];rfl
 | x :: r,s,hs=>by
  rw [List.cons_append];unfold Ds;by_cases h:x<0∨24-s<x
  · rw [if_pos h,if_pos h]
  · rw [if_neg h,if_neg h,NN k r (s+x) (by omega)]
theorem Kj (h:l.length≤6):Co (Ae l)=Co l:=by
 unfold Co Ic;rw [if_neg (by rw [AQ h]; omega),if_neg (by omega)];unfold Ae;rw [NN _ _ _ (by omega)]
theorem FQ (l:List Int):(Ae l).sum=l.sum:=by
 unfold Ae;rw [List.sum_append];have:∀ k:Nat,(List.replicate k (0:Int)).sum=0:=by
  intro k
  induction k with
  | zero=>rfl
  | succ k ih=>rw [List.replicate_succ,List.sum_cons,ih]; rfl
 rw [this]; omega
theorem O1 (k:Nat) (a b:List Int):Pl.ordR (List.replicate k 0 ++ a) (List.replicate k 0 ++ b)=Pl.ordR a b:=by
 induction k with
 | zero=>rfl
 | succ k ih =>
  rw [List.replicate_succ,List.cons_append,List.cons_append];show (if (0:Int)=0 then _ else _)=_;rw [if_pos rfl,ih]
theorem NO {a b:List Int} (h:a.length=b.length):Pl.ordE (Ae a) (Ae b)=Pl.ordE a b:=by
 unfold Pl.ordE;rw [FQ,FQ];have hr:Pl.ordR (Ae a).reverse (Ae b).reverse=Pl.ordR a.reverse b.reverse:=by
  unfold Ae;rw [List.reverse_append,List.reverse_append,List.reverse_replicate,List.reverse_replicate,h,O1]
 rw [hr]
theorem BQ {t:Tx} {m:Pl.Tm} (h:A9 vars t=some m):A8 t.1=some m.2∧m.2≠0∧(t.2.length:Int)=vars∧(∀ e∈t.2,0≤e∧e≤1048576)∧m.1=Ae t.2:=by
 unfold A9 at h;split at h
 · cases h
 · rename_i q hq;split at h
   · rename_i hc;cases h;exact ⟨hq,hc.1,hc.2.1,hc.2.2,rfl⟩
   · cases h
theorem BR {ts:List Tx} {l:List Pl.Tm} (h:rdP vars ts=some l):(0≤vars∧vars≤6)∧ts.length≤4096∧(∀ t r,ts=t :: r→Co t.2=true)∧okT vars ts ts.length∧l=ts.map (fun t=>(A9 vars t).getD z6):=by
 unfold rdP at h;split at h
 · rename_i h1;unfold rdWF at h;split at h
   · rename_i h2;cases h;exact ⟨⟨h2.1,h2.2.1⟩,h1.1,h1.2,h2.2.2,rfl⟩
   · cases h
 · cases h
theorem Gu {ts:List Tx} {l:List Pl.Tm} (h:rdP vars ts=some l) {i:Nat} (hi:i<ts.length):A9 vars (ts.getD i tm0)=some (l.getD i ([],0)):=by
 obtain ⟨_,_,_,ho,rfl⟩:=BR h;have h1:=ho.1 i hi;rw [Option.isSome_iff_exists] at h1;obtain ⟨m,hm⟩:=h1;have h2:ts.getD i tm0=ts[i]:=by simp [hi]
 rw [h2] at hm ⊢;rw [hm];simp [hi,hm]
theorem DE {ts:List Tx} {l:List Pl.Tm} (h:rdP vars ts=some l):l.length=ts.length:=by
 obtain ⟨_,_,_,ho,rfl⟩:=BR h;simp
theorem G9 {ts:List Tx} {l:List Pl.Tm} (h:rdP vars ts=some l) {m:Pl.Tm} (hm:m∈l):∃ t∈ts,A9 vars t=some m:=by
 obtain ⟨i,hi,rfl⟩:=List.mem_iff_getElem.1 hm;have hi2:i<ts.length:=by rw [←DE h]; exact hi
 have h1:=Gu h hi2;have h2:l.getD i ([],0)=l[i]:=by simp [hi]
 have h3:ts.getD i tm0=ts[i]:=by simp [hi2]
 rw [h2,h3] at h1;exact ⟨ts[i],List.getElem_mem hi2,h1⟩
theorem LA {ts:List Tx} (h:∀ i,i+1<ts.length→0<Pl.ordE (ts.getD i tm0).2 (ts.getD (i+1) tm0).2):∀ d i,i+d+1<ts.length→0<Pl.ordE (ts.getD i tm0).2 (ts.getD (i+d+1) tm0).2
 | 0,i,hi=>h i hi
 | d+1,i,hi=>Pl.ordE_trans (LA h d i (by omega)) (h (i+d+1) (by omega))
theorem Il {ts:List Tx} {l:List Pl.Tm} (h:rdP vars ts=some l):Pl.Canon 6 l:=by
 obtain ⟨hv,_,_,ho,_⟩:=BR h;have hlen:=DE h
 have key:∀ i,i<ts.length→(l.getD i ([],0)).1=Ae (ts.getD i tm0).2∧((ts.getD i tm0).2.length:Int)=vars:=fun i hi=>by
  obtain ⟨_,_,h3,_,h5⟩:=BQ (Gu h hi);exact ⟨h5,h3⟩
 refine ⟨fun m hm => ?_,fun m hm => ?_, ?_⟩
 · obtain ⟨t,ht,hr⟩:=G9 h hm;obtain ⟨_,_,h3,_,h5⟩:=BQ hr;rw [h5,AQ (by omega)]
 · obtain ⟨t,ht,hr⟩:=G9 h hm;exact (BQ hr).2.1
 · rw [List.pairwise_iff_getElem];intro i j hi hj hij;have hi2:i<ts.length:=by omega
   have hj2:j<ts.length:=by omega
   have e1:=key i hi2;have e2:=key j hj2;have g1:l.getD i ([],0)=l[i]:=by simp [hi]
   have g2:l.getD j ([],0)=l[j]:=by simp [hj]
   rw [g1] at e1;rw [g2] at e2;rw [e1.1,e2.1,NO (by omega)];have:=LA ho.2 (j-i-1) i (by omega)
   rwa [show i+(j-i-1)+1=j by omega] at this
theorem T7 {ts:List Tx} {l:List Pl.Tm} (h:rdP vars ts=some l):wrT vars.toNat l=ts:=by
 have hlen:=DE h;unfold wrT;apply List.ext_getElem
 · simpa using hlen
 · intro i h1 h2;have hi:i<l.length:=by simpa using h1
   obtain ⟨g1,g2,g3,g4,g5⟩:=BQ (Gu h h2);have e1:l.getD i ([],0)=l[i]:=by simp [hi]
   have e2:ts.getD i tm0=ts[i]:=by simp [h2]
   rw [e1] at g1 g5;rw [e2] at g1 g3 g5;rw [List.getElem_map,←Fo g1,g5,show vars.toNat=(ts[i]).2.length by omega,FO]
theorem T8 {ts:List Tx} {l:List Pl.Tm} (h:rdP vars ts=some l):okW l:=by
 have hlen:=DE h;obtain ⟨hv,h1,h2,ho,_⟩:=BR h;refine ⟨by omega,fun m r e => ?_⟩;cases ts with
 | nil=>rw [e] at hlen; simp at hlen
 | cons t s =>
  have h3:=Gu h (i:=0) (by simp);rw [e] at h3;obtain ⟨_,_,g3,_,g5⟩:=BQ h3;simp only [List.getD_cons_zero] at g3 g5;rw [g5,Kj (by omega)];exact h2 t s rfl
theorem SC (hB:0≤B) (h:∀ e∈l,0≤e∧e≤B):∀ e∈Ae l,0≤e∧e≤B:=by
 intro e he;rcases List.mem_append.1 he with he|he
 · exact h e he
 · rw [(List.mem_replicate.1 he).2]; omega
theorem Et {ts:List Tx} {l:List Pl.Tm} (h:rdP vars ts=some l):∀ t∈l,t.1.length=6∧∀ x∈t.1,0≤x∧x≤1048576:=by
 intro m hm;obtain ⟨t,ht,hr⟩:=G9 h hm;obtain ⟨_,_,g3,g4,g5⟩:=BQ hr;exact ⟨(Il h).len m hm,by rw [g5]; exact SC (by omega) g4⟩
theorem Ha (n:Nat):n<10^(Lib.decDigits n).length:=by
 have:=W.decV_lt (W.digs_dec n)
 rwa [W.decV_dec] at this
theorem T9 (q:Rat):q.num.natAbs<10^(txt q).length∧q.den<10^(txt q).length:=by
 have h1:=Ha q.num.natAbs;have h2:(Lib.decDigits q.num.natAbs).length≤(Lib.itoa q.num).length:=by
  unfold Lib.itoa;split
  · simp
  · have e:q.num.toNat=q.num.natAbs:=by omega
    simp [e]
 have h0:0<(Lib.decDigits q.num.natAbs).length:=List.length_pos_iff.2 (W.dec_ne _);have hlen:(Lib.itoa q.num).length≤(txt q).length:=by unfold txt; rw [List.length_append]; omega
 refine ⟨Nat.lt_of_lt_of_le h1 (Nat.pow_le_pow_right (by omega) (by omega)), ?_⟩;by_cases hd:q.den=1
 · rw [hd];exact Nat.one_lt_pow (by omega) (by omega)
 · have h3:=Ha q.den;refine Nat.lt_of_lt_of_le h3 (Nat.pow_le_pow_right (by omega) ?_);unfold txt;rw [if_neg hd];simp;omega
theorem RB.str {b:Nat} (h:Pl.RB b q) (hb:b≤1920):EZ q:=Lt (Ag h.1 hb) (Ag h.2 hb)
theorem SE {l:List Rat} {b:Nat} (h:∀ q∈l,q.den<P2 b):Cv l<P2 (b*l.length+1):=by
 have key:∀ (l:List Rat) (a c:Nat),a<P2 c→(∀ q∈l,q.den<P2 b)→l.foldl (fun a q=>a*(q.den/Nat.gcd a q.den)) a<P2 (b*l.length+c):=by
  intro l
  induction l with
  | nil=>intro a c ha _; simpa using ha
  | cons q r ih =>
   intro a c ha h;rw [List.foldl_cons,List.length_cons,Nat.mul_add,Nat.mul_one,Nat.add_assoc];refine ih _ (b+c) ?_ (fun s hs=>h s (by simp [hs]));rw [Nat.add_comm b c];exact B0 ha (Nat.lt_of_le_of_lt (Nat.div_le_self _ _) (h q (by simp)))
 exact key l 1 1 (by unfold P2; omega) h
theorem Eu {l:List Pl.Tm} (h:Pl.Canon 6 l):Pl.Nrm l:=by
 refine ⟨h.len,h.nz, ?_⟩;unfold List.Nodup;rw [List.pairwise_map];refine h.desc.imp ?_;intro a b hab e;rw [e,Pl.ordE_self] at hab;omega
theorem Em.len {l:List Rat} (h:Em w a n c l):l.length=n:=by
 obtain ⟨_,_,h,_⟩:=h;exact h
theorem Ra {xs:List (List UInt8)} {pt:List Rat} (h:rdAll xs=some pt):pt.length=xs.length:=by
 unfold rdAll at h;split at h
 · cases h; simp
 · cases h
def O2 (w:World) (s:List UInt8) (err:Int) (e:Ending) (w':World):Prop:=e = .returned (.tuple #[.string ⟨s.toArray⟩, .int .i64 err])∧Ext w w'
def VZ (w:World) (va:Int) (m:Nat) (ol:Option (List Pl.Tm)) (op:Option (List Rat)) (e:Ending) (w':World):Prop :=
 (∃ l pt,ol=some l∧op=some pt∧(m:Int)=va∧O2 w (txt (Pl.evq pt l)) 0 e w') ∨
 ((ol.isSome && op.isSome)=true∧(m:Int)≠va∧O2 w [] 4 e w')∨((ol.isSome && op.isSome)=false∧O2 w [] 1 e w')
theorem Rb {ts:List Tx} {xs:List (List UInt8)} (hT:A2 w) (ha:CJ w a n c ts) (hb:Ki w b m d xs) (sa:∀ t∈ts,t.1.length≤570) (sb:∀ t∈xs,t.length≤570) (hm:m≤1000000)
 (hok:∀ l pt,rdP va ts=some l→rdAll xs=some pt→(m:Int)=va→EvB l pt∧EZ (Pl.evq pt l)) :
 Calls prog 18 #[.agg #[.int .i64 va, .slice a n c], .slice b m d] w (VZ w va m (rdP va ts) (rdAll xs)):=by
 have hrp:=fun (wx:World) (hC:Ext w wx)=>qh (Lu (vars:=va) (hT.ext hC) (ha.ext hC) sa);have hra:=fun (wx:World) (hC:Ext w wx)=>qh (NM (hT.ext hC) (hb.ext hC) sb hm);have hxl:xs.length=m:=by obtain ⟨_,_,h,_⟩:=hb; exact h
 have HB:Hid (∀ l pt,rdP va ts=some l→rdAll xs=some pt→l.length≤4096∧0≤va∧va≤6∧pt.length=m):=qh (fun l pt h1 h2=>⟨by rw [DE h1]; exact (BR h1).2.1,(BR h1).1.1,(BR h1).1.2,by rw [Ra h2,hxl]⟩);have HOK:=qh hok;obtain ⟨ol,hol⟩:∃ o,rdP va ts=o:=⟨_,rfl⟩;obtain ⟨op,hop⟩:∃ o,rdAll xs=o:=⟨_,rfl⟩;rw [hol] at hrp HB HOK ⊢;rw [hop] at hra HB HOK ⊢;clear hol hop sa sb ha hb hok hxl
 go_enter func18,ntmps18
 go_upto_region 1 with (fail)
 refine Bq ?_;intro w0 hE0 hB0 hz0;have p00:=hB0.c 0 rfl;have p01:=hB0.c 1 rfl;clear hB0 hz0
 go_wp2_with fail
 refine (hrp _ hE0).out.mono ?_;rintro e w1 ⟨a1,n1,c1,rfl,hE1,hL1⟩;have hE01:=hE0.trans hE1;have p00:=hE1.cell p00;clear hE0 hE1 hrp p01
 go_wp2_with fail
 refine (hra _ hE01).out.mono ?_;rintro e w2 ⟨a2,n2,c2,rfl,hE2,hP2⟩;have hEw:=hE01.trans hE2;have hL2:=hL1.ext hE2;have p00:=hE2.cell p00;clear hE01 hE2 hra hL1;cases ol with
 | none =>
  simp only [Option.isSome_none];go_wp2
  go_ret2
  exact Or.inr (Or.inr ⟨rfl,rfl,hEw⟩)
 | some l =>
  cases op with
  | none =>
   simp only [Option.isSome_none,Option.isSome_some];go_wp2
   go_ret2
   exact Or.inr (Or.inr ⟨rfl,rfl,hEw⟩)
  | some pt =>
   simp only [Option.isSome_some,Option.getD_some] at hL2 hP2 ⊢;have hb:=HB.out l pt rfl rfl;by_cases hv:(m:Int)=va
   · have hvv:((m:Int) != va)=false:=by simp [hv]
     have hOK:=HOK.out l pt rfl rfl hv;have hpl:pt.length=n2:=hP2.len;have hll:l.length=n1:=hL2.len;have HEV:=qh (Q9 (hT.ext hEw) hL2 hP2 (by omega) (by omega) hOK.1);have HST:=qh hOK.2;have HV:=qh hv;clear hOK hv HOK HB hL2 hP2
     go_wp2_with fail
     refine HEV.out.mono ?_;rintro e w3 ⟨cs,rfl,hE3,hr3⟩;have hEw3:=hEw.trans hE3;have HSS:=qh (HST.out w3 (.agg cs.toArray) (hT.ext hEw3) ⟨cs,rfl,hr3⟩);clear HEV hr3
     go_wp2_with fail
     refine HSS.out.mono ?_;rintro e w4 ⟨rfl,hE4⟩;go_wp2
     go_ret2
     exact Or.inl ⟨l,pt,rfl,rfl,HV.out,rfl,hEw3.trans hE4⟩
   · have hvv:((m:Int) != va)=true:=by simpa using hv
     have HV:=qh hv;clear hv;go_wp2
     go_ret2
     exact Or.inr (Or.inl ⟨rfl,HV.out,rfl,hEw⟩)
theorem NQ:∀ (l:List Int) (s:Int),s≤24→0≤s→0≤Ds s l→Ds s l=s+l.sum∧s+l.sum≤24∧∀ x∈l,0≤x
 | [],s,h1,h2,_=>⟨by simp [Ds],by simpa using h1,by simp⟩
 | x :: r,s,h1,h2,h=>by
  unfold Ds at h ⊢;by_cases hc:x<0∨24-s<x
  · rw [if_pos hc] at h; omega
  · rw [if_neg hc] at h ⊢;obtain ⟨g1,g2,g3⟩:=NQ r (s+x) (by omega) (by omega) h;refine ⟨by rw [g1,List.sum_cons]; omega,by rw [List.sum_cons]; omega,fun y hy => ?_⟩;rcases List.mem_cons.1 hy with rfl|hy
    · omega
    · exact g3 y hy
theorem Fx:∀ {l:List Int},(∀ x∈l,0≤x)→0≤l.sum∧∀ x∈l,x≤l.sum
 | [],_=>by simp
 | y :: r,h=>by
  obtain ⟨h1,h2⟩:=Fx (l:=r) (fun x hx=>h x (by simp [hx]));have h3:=h y (by simp);rw [List.sum_cons];refine ⟨by omega,fun x hx => ?_⟩;rcases List.mem_cons.1 hx with rfl|hx
  · omega
  · have:=h2 x hx; omega
theorem LB:∀ (l:List Int) (s:Int),0≤s→(∀ x∈l,0≤x)→s+l.sum≤24→Ds s l=s+l.sum
 | [],s,_,_,_=>by simp [Ds]
 | x :: r,s,h1,h2,h3=>by
  have hr:=Fx (l:=r) (fun y hy=>h2 y (by simp [hy]));have hx:=h2 x (by simp);rw [List.sum_cons] at h3 ⊢;unfold Ds;rw [if_neg (by omega),LB r (s+x) (by omega) (fun y hy=>h2 y (by simp [hy])) (by omega)];omega
theorem DR:Co l=true↔l.length≤6∧(∀ x∈l,0≤x)∧l.sum≤24:=by
 unfold Co Ic;rw [decide_eq_true_iff];constructor
 · intro h;split at h
   · omega
   · obtain ⟨h1,h2,h3⟩:=NQ l 0 (by omega) (by omega) h;exact ⟨by omega,h3,by omega⟩
 · rintro ⟨h1,h2,h3⟩;rw [if_neg (by omega),LB l 0 (by omega) h2 (by omega)];have:=(Fx h2).1;omega
theorem SG {a b:List Int} (h:0<Pl.ordE a b):b.sum≤a.sum:=by
 unfold Pl.ordE at h;split at h
 · omega
 · have:=Pl.cmpI_pos.1 h; omega
def InV (vars:Nat) (e:List Int):Prop:=e.length=6∧(∀ x∈e,0≤x)∧Ae (e.take vars)=e
theorem InV.pad {vars:Nat} (h:l.length=vars) (hv:vars≤6) (hn:∀ x∈l,0≤x):InV vars (Ae l):=by
 refine ⟨AQ (by omega),fun x hx => ?_,by rw [←h,FO]⟩;rcases List.mem_append.1 hx with hx|hx
 · exact hn x hx
 · rw [(List.mem_replicate.1 hx).2]; omega
theorem LC {t:Pl.Tm} {r:List Pl.Tm} (h:Pl.Canon 6 (t :: r)):∀ s∈t :: r,s.1.sum≤t.1.sum:=by
 intro s hs;rcases List.mem_cons.1 hs with rfl|hs
 · omega
 · exact SG ((List.pairwise_cons.1 h.desc).1 s hs)
theorem NS {vars:Nat} {t:Pl.Tm} (hv:vars≤6) (h:InV vars t.1) (hz:t.2≠0) (hs:t.1.sum≤24):A9 vars (txt t.2,t.1.take vars)=some t:=by
 unfold A9;simp only [Bm];have hl:(t.1.take vars).length=vars:=by rw [List.length_take,h.1]; omega
 rw [if_pos ⟨hz,by rw [hl],fun e he=>by
  have h1:=List.mem_of_mem_take he;have h2:=Fx h.2.1;have:=h.2.1 e h1;have:=h2.2 e h1
  omega⟩,h.2.2]
theorem SH {vars:Nat} {l:List Pl.Tm} (hv:vars≤6) (hc:Pl.Canon 6 l) (hk:okW l) (hi:∀ t∈l,InV vars t.1):rdP vars (wrT vars l)=some l:=by
 have hsum:∀ t∈l,t.1.sum≤24:=by
  cases l with
  | nil=>simp
  | cons t r =>
   intro s hs;have h1:=LC hc s hs;have h2:=(DR.1 (hk.2 t r rfl)).2.2;omega
 have hrt:∀ t∈l,A9 vars (txt t.2,t.1.take vars)=some t:=fun t ht=>NS hv (hi t ht) (hc.nz t ht) (hsum t ht);have hlen:(wrT vars l).length=l.length:=by simp [wrT]
 have hget:∀ i,i<l.length→(wrT vars l).getD i tm0=(txt (l.getD i ([],0)).2,(l.getD i ([],0)).1.take vars)∧l.getD i ([],0)∈l:=fun i hi=>by
  refine ⟨?_,by simp [hi]⟩;simp [wrT,hi]
 unfold rdP;rw [if_pos]
 · unfold rdWF;rw [if_pos]
   · congr 1;unfold wrT;rw [List.map_map]
     conv=>rhs; rw [←List.map_id l]
     apply List.map_congr_left;intro t ht;simp only [Function.comp_apply,hrt t ht,Option.getD_some,id_eq]
   · refine ⟨by omega,by omega,fun i h => ?_,fun i h => ?_⟩
     · obtain ⟨h1,h2⟩:=hget i (by omega);rw [h1,hrt _ h2];rfl
     · obtain ⟨h1,h2⟩:=hget i (by omega);obtain ⟨h3,h4⟩:=hget (i+1) (by omega);rw [h1,h3];have e1:=hi _ h2;have e2:=hi _ h4;have hla:((l.getD i ([],0)).1.take vars).length=((l.getD (i+1) ([],0)).1.take vars).length:=by rw [List.length_take,List.length_take,e1.1,e2.1]
       rw [←NO hla,e1.2.2,e2.2.2];have hp:=List.pairwise_iff_getElem.1 hc.desc i (i+1) (by omega) (by omega) (by omega);simpa [show i<l.length by omega,show i+1<l.length by omega] using hp
 · refine ⟨by rw [hlen]; exact hk.1,fun t r e => ?_⟩;cases l with
   | nil=>simp [wrT] at e
   | cons m s =>
    have e':(txt m.2,m.1.take vars) :: wrT vars s=t :: r:=e;simp only [List.cons.injEq] at e';rw [←e'.1];have h1:=hi m (by simp);show Co (m.1.take vars)=true;rw [←Kj (by rw [List.length_take]; omega),h1.2.2];exact hk.2 m s rfl
theorem P4:∀ (l:List (List Int)),∃ k:List (List Int),k.Nodup∧∀ e,e∈k↔e∈l
 | []=>⟨[],List.nodup_nil,fun _=>Iff.rfl⟩
 | x :: r=>by
  obtain ⟨k,h1,h2⟩:=P4 r;by_cases h:x∈k
  · refine ⟨k,h1,fun e => ?_⟩;rw [h2,List.mem_cons];constructor
    · exact Or.inr
    · rintro (rfl|h3)
      · exact (h2 _).1 h
      · exact h3
  · exact ⟨x :: k,List.nodup_cons.2 ⟨h,h1⟩,fun e=>by rw [List.mem_cons,List.mem_cons,h2]⟩
theorem LD (F:List Int→Rat):∀ (k:List (List Int)) (_:k.Nodup) (e:List Int),Pl.coef (k.map (fun x=>(x,F x))) e=if e∈k then F e else 0
 | [],_,e=>by simp [Pl.coef]
 | x :: r,h,e=>by
  have h1:=List.nodup_cons.1 h;have ih:=LD F r h1.2 e;rw [List.map_cons];unfold Pl.coef;rw [ih];by_cases hx:x=e
  · subst hx;rw [if_pos rfl,if_neg h1.1,if_pos (by simp)];exact Rat.add_zero _
  · rw [if_neg hx];by_cases he:e∈r
    · rw [if_pos he,if_pos (by simp [he])]; exact Rat.zero_add _
    · rw [if_neg he,if_neg (by simp [he,Ne.symm hx])]; exact Rat.zero_add _
theorem Vm {p:List Pl.Tm} (h6:∀ t∈p,t.1.length=6):∃ out,Pl.Nrm out∧∀ e,Pl.coef out e=Pl.coef p e:=by
 obtain ⟨k,h1,h2⟩:=P4 (p.map (·.1));refine ⟨(k.map (fun x=>(x,Pl.coef p x))).filter (fun t=>decide (t.2≠0)),Pl.Nrm.filter ?_ ?_,fun e => ?_⟩
 · intro t ht;obtain ⟨x,hx,rfl⟩:=List.mem_map.1 ht;obtain ⟨s,hs,rfl⟩:=List.mem_map.1 ((h2 x).1 hx);exact h6 s hs
 · rw [List.map_map];have:((fun t:Pl.Tm=>t.1) ∘ fun x=>(x,Pl.coef p x))=id:=rfl;rw [this,List.map_id];exact h1
 · rw [Pl.coef_nz,LD _ k h1];by_cases he:e∈k
   · rw [if_pos he]
   · rw [if_neg he];refine (Pl.coef_absent fun t ht h=>he ((h2 e).2 ?_)).symm;rw [←h];exact List.mem_map_of_mem ht
theorem Cq {p:List Pl.Tm} (h6:∀ t∈p,t.1.length=6):Pl.Canon 6 (cnP p)∧∀ e,Pl.coef (cnP p) e=Pl.coef p e:=by
 obtain ⟨out,h1,h2⟩:=Vm h6;obtain ⟨l,h3,h4⟩:=Ik out h1.len;have hl:=h1.perm h3.symm;have hc:Pl.Canon 6 l:=Pl.canon_of_sorted hl.len hl.nz h4 hl.nodup;have e:cnP p=l:=EO h1 h2 h3 h4;rw [e];exact ⟨hc,fun e=>by rw [Pl.coef_perm h3,h2]⟩
theorem Hb {p:List Pl.Tm} (h6:∀ t∈p,t.1.length=6) {t:Pl.Tm} (ht:t∈cnP p):∃ s∈p,s.1=t.1:=by
 obtain ⟨h1,h2⟩:=Cq h6;have h3:Pl.coef p t.1≠0:=by
  rw [←h2,Pl.coef_mem (Eu h1).nodup ht];exact h1.nz t ht
 exact Pl.coef_present h3
theorem FR {p:List Pl.Tm} {vars:Nat} (hi:∀ t∈p,InV vars t.1):∀ t∈cnP p,InV vars t.1:=fun t ht=>by
 obtain ⟨s,hs,e⟩:=Hb (fun t ht=>(hi t ht).1) ht;rw [←e];exact hi s hs
theorem Rc {p:List Pl.Tm} {vars:Nat} (hv:vars≤6) (hi:∀ t∈p,InV vars t.1):(okW (cnP p)∧resQ (vars:Int) p=((vars:Int),wrT vars (cnP p),0)∧rdP vars (wrT vars (cnP p))=some (cnP p))∨(¬ okW (cnP p)∧resQ (vars:Int) p=(0,[],2)):=by
 by_cases hk:okW (cnP p)
 · refine Or.inl ⟨hk, ?_,SH hv (Cq (fun t ht=>(hi t ht).1)).1 hk (FR hi)⟩;unfold resQ;rw [if_pos hk,Int.toNat_natCast]
 · refine Or.inr ⟨hk, ?_⟩;unfold resQ;rw [if_neg hk]
theorem Ua {vars:Nat} {ts:List Tx} {l:List Pl.Tm} (h:rdP vars ts=some l):∀ t∈l,InV vars t.1:=by
 intro m hm;obtain ⟨t,ht,hr⟩:=G9 h hm;obtain ⟨_,_,g3,g4,g5⟩:=BQ hr;rw [g5];exact InV.pad (by omega) (by have:=(BR h).1; omega) (fun x hx=>(g4 x hx).1)
namespace Aw
def s1:List UInt8:=[49]
def s12:List UInt8:=[49,47,50]
def Wu:List UInt8:=[45,49,47,50]
def s7:List UInt8:=[55]
def e0:List Int:=[1,0,0,0,0,0]
def T1:List Tx:=[(s1,[1,0])]
def T2:List Tx:=[(s1,[2,0])]
def M:List Tx:=[(s12,[1,1]),(s1,[1,0]),(Wu,[1,1])]
end Aw

theorem O3 {xs ys:List Tx} (hp:xs.take k=ys.take k) (h1:k<xs.length) (h2:k<ys.length) (he:xs.getD k tm0=ys.getD k tm0):xs.take (k+1)=ys.take (k+1):=by
 simp only [gqq,h1,h2,List.getElem?_eq_getElem,Option.getD_some] at he;rw [List.take_succ_eq_append_getElem h1,List.take_succ_eq_append_getElem h2,hp,he]
theorem Kk {xs ys:List Tx} (hx:CJ w a n c xs) (hy:CJ w b m d ys) :
 Calls Tryz.prog 15 #[.agg #[.int .i64 va, .slice a n c], .agg #[.int .i64 vb, .slice b m d]] w fun e w'=>e = .returned (.bool (decide (va=vb∧xs=ys)))∧Ext w w':=by
 obtain ⟨r,hr⟩:∃ r,decide (va=vb∧xs=ys)=r:=⟨_,rfl⟩;rw [hr];have HR:=qh hr;clear hr;have hlx:=hx.len;have hly:=hy.len;obtain ⟨rx,hX,_,hqx⟩:=hx;obtain ⟨ry,hY,_,hqy⟩:=hy;have HQX:=qh hqx;have HQY:=qh hqy;have HLX:=qh hlx;have HLY:=qh hly;clear hqx hqy hlx hly;have hmn:=hX.le;have hmm:=hY.le
 go_enter Tryz.func15,Tryz.ntmps15
 go_upto_region 1 with (fail)
 refine F0 ?_;intro w0 hE0 hB0 hB1 hz0;have p00:=hB0.c 0 rfl;have p01:=hB0.c 1 rfl;have p10:=hB1.c 0 rfl;have p11:=hB1.c 1 rfl;clear hB0 hB1 hz0;by_cases hv:va=vb
 · subst hv;have hvv:(va != va)=false:=by simp
   by_cases hl:n=m
   · have hne:((n:Int) != (m:Int))=false:=by simp [hl]
     have HL:=qh hl;clear hl;go_wp2
     go_loopw [5] (fun i wr=>∃ k:Nat,k≤n∧i = .int .i64 k∧Ext w0 wr∧Hid (xs.take k=ys.take k)) (fun i _=>n-(intOf i).toNat)
     case atStart=>exact ⟨0,Nat.zero_le _,rfl,Ext.refl _,qh rfl⟩
     case round =>
      obtain ⟨k,hk,rfl,hEr,HP⟩:=hrel;have hE:=hE0.trans hEr;have q01:=hEr.cell p01;have q11:=hEr.cell p11;by_cases hlt:k<n
      · have hlt2:k<m:=by have:=HL.out; omega
        obtain ⟨b1,o1,rfl,hc1⟩:=(hX.ext hE).rd (by omega);obtain ⟨b2,o2,rfl,hc2⟩:=(hY.ext hE).rd (by omega);obtain ⟨s1,a1,n1,c1,hr1,hs1,hx1⟩:=HQX.out k hlt;obtain ⟨s2,a2,n2,c2,hr2,hs2,hx2⟩:=HQY.out k hlt2;have x0:=hc1 k hlt 0 (by omega);have x1:=hc1 k hlt 1 (by omega);have y0:=hc2 k hlt2 0 (by omega);have y1:=hc2 k hlt2 1 (by omega);rw [hr1] at x0 x1;rw [hr2] at y0 y1;simp only [List.getD_cons_zero,List.getD_cons_succ,Nat.add_zero] at x0 x1 y0 y1;have hIN:=fun (wx:World) (hC:Ext wr wx)=>qh (FM ((hx1.ext hE).ext hC) ((hx2.ext hE).ext hC))
        have HST:Hid ((xs.getD k tm0).1=Am s1∧(ys.getD k tm0).1=Am s2):=qh ⟨hs1.symm,hs2.symm⟩
        have HNX:Hid (((xs.getD k tm0).1≠(ys.getD k tm0).1∨(xs.getD k tm0).2≠(ys.getD k tm0).2)→r=false):=qh (fun h=>by
         rw [←HR.out];apply decide_eq_false;rintro ⟨_,rfl⟩
         rcases h with h|h <;> exact h rfl)
        clear hc1 hc2 hr1 hr2 hs1 hs2 hx1 hx2;generalize hte:(xs.getD k tm0).2=e1 at *
        generalize htf:(ys.getD k tm0).2=e2 at *
        have HTE:=qh (And.intro hte htf);clear hte htf;go_wp2;by_cases hse:s1.toList=s2.toList
        · have hstb:(s1.toList != s2.toList)=false:=by simp [hse]
          have HSE:Hid ((xs.getD k tm0).1=(ys.getD k tm0).1):=qh (by
           rw [HST.out.1,HST.out.2];unfold Am;rw [ByteArray.toList_eq,ByteArray.toList_eq] at hse
           exact hse)
          obtain ⟨bq,hbq⟩:∃ bq,decide (e1=e2)=bq:=⟨_,rfl⟩;have HIN:=fun (wx:World) (hC:Ext wr wx)=>qh (hIN wx hC).out;rw [hbq] at HIN;have HBQ:=qh hbq;clear hIN hbq;have HF1:=fun (wx:World) (hC:Ext wr wx)=>qh (And.intro (hC.cell q01) (And.intro (hC.cell q11) (And.intro (hC.cell x0) (And.intro (hC.cell x1) (And.intro (hC.cell y0) (hC.cell y1))))))
          refine AM (by kernel_rfl) (fun wx=>Ext wr wx)
           [he (.pointer (some ⟨w.heap.size,1,none⟩)),
 he (.slice (some ⟨b1,o1,none⟩) n c),
 he (.int .i64 (k:Int)),
 he (.pointer (some ⟨b1,(o1+k*2),none⟩)),
 he (.pointer (some ⟨b1,(o1+k*2),none⟩)),
 he (.string s1),
 he (.pointer (some ⟨(w.heap.size+1),1,none⟩)),
 he (.slice (some ⟨b2,o2,none⟩) m d),
 he (.int .i64 (k:Int)),
 he (.pointer (some ⟨b2,(o2+k*2),none⟩)),
 he (.pointer (some ⟨b2,(o2+k*2),none⟩)),
 he (.string s2),
 he (.bool false),
 he (.bool false),
 he (.pointer (some ⟨w.heap.size,1,none⟩)),
 he (.slice (some ⟨b1,o1,none⟩) n c),
 he (.int .i64 (k:Int)),
 he (.pointer (some ⟨b1,(o1+k*2),none⟩)),
 he (.pointer (some ⟨b1,((o1+k*2)+1),none⟩)),
 he (.slice a1 n1 c1),
 he (.pointer (some ⟨(w.heap.size+1),1,none⟩)),
 he (.slice (some ⟨b2,o2,none⟩) m d),
 he (.int .i64 (k:Int)),
 he (.pointer (some ⟨b2,(o2+k*2),none⟩)),
 he (.pointer (some ⟨b2,((o2+k*2)+1),none⟩)),
 he (.slice a2 n2 c2),
 hp (fun v wx=>v = .bool bq),
 he (.bool (!bq)),
 he (.bool (!bq))]
           (by kernel_rfl) (fun _ _ e h=>h.trans e) ((Ext.refl wr).drew) ⟨trivial,trivial,trivial,trivial,trivial,trivial,trivial,trivial,trivial,trivial,trivial,trivial,trivial,trivial,trivial,trivial,trivial,trivial,trivial,trivial,trivial,trivial,trivial,trivial,trivial,trivial,fun v w w' e h=>h,trivial,trivial,trivial⟩ ⟨?o0, ?o1, ?o2, ?o3, ?o4, ?o5, ?o6, ?o7, ?o8, ?o9, ?o10, ?o11, ?o12, ?o13, ?o14, ?o15, ?o16, ?o17, ?o18, ?o19, ?o20, ?o21, ?o22, ?o23, ?o24, ?o25, ?o26, ?o27, ?o28,trivial⟩ ?fin
          case o0=>exact ofa (d:=1) rfl rfl (fun _ _=>id) (by kernel_rfl) rfl
          case o1=>exact ol rfl rfl (fun _ _=>id) (by kernel_rfl) (by assumption)
          case o2=>exact omv rfl rfl (fun _ _=>id)
          case o3 =>
           refine AB rfl fun ρ wx hC hcst h => ?_;have e0:ρ (.tmp 28)=(.slice (some ⟨b1,o1,none⟩) n c):=h.1;have e1:ρ (.tmp 29)=(.int .i64 (k:Int)):=h.2.1;obtain ⟨k0,k1,k2,k3,k4,k5⟩:=(HF1 wx hC).out;go_simp
           try (first | (intros; omega) | exact IntWalk.i64_in _ (by omega))
          case o4=>exact ofa (d:=0) rfl rfl (fun _ _=>id) (by kernel_rfl) rfl
          case o5=>exact ol rfl rfl (fun _ _=>id) (by kernel_rfl) (by assumption)
          case o6=>exact ofa (d:=1) rfl rfl (fun _ _=>id) (by kernel_rfl) rfl
          case o7=>exact ol rfl rfl (fun _ _=>id) (by kernel_rfl) (by assumption)
          case o8=>exact omv rfl rfl (fun _ _=>id)
          case o9 =>
           refine AB rfl fun ρ wx hC hcst h => ?_;have e0:ρ (.tmp 34)=(.slice (some ⟨b2,o2,none⟩) m d):=h.1;have e1:ρ (.tmp 35)=(.int .i64 (k:Int)):=h.2.1;obtain ⟨k0,k1,k2,k3,k4,k5⟩:=(HF1 wx hC).out;go_simp
           try (first | (intros; omega) | exact IntWalk.i64_in _ (by omega))
          case o10=>exact ofa (d:=0) rfl rfl (fun _ _=>id) (by kernel_rfl) rfl
          case o11=>exact ol rfl rfl (fun _ _=>id) (by kernel_rfl) (by assumption)
          case o12 =>
           refine AB rfl fun ρ wx hC hcst h => ?_;have e0:ρ (.tmp 32)=(.string s1):=h.1;have e1:ρ (.tmp 38)=(.string s2):=h.2.1;obtain ⟨k0,k1,k2,k3,k4,k5⟩:=(HF1 wx hC).out;go_simp
           try (first | (intros; omega) | exact IntWalk.i64_in _ (by omega))
          case o13=>exact omv rfl rfl (fun _ _=>id)
          case o14=>exact ofa (d:=1) rfl rfl (fun _ _=>id) (by kernel_rfl) rfl
          case o15=>exact ol rfl rfl (fun _ _=>id) (by kernel_rfl) (by assumption)
          case o16=>exact omv rfl rfl (fun _ _=>id)
          case o17 =>
           refine AB rfl fun ρ wx hC hcst h => ?_;have e0:ρ (.tmp 42)=(.slice (some ⟨b1,o1,none⟩) n c):=h.1;have e1:ρ (.tmp 43)=(.int .i64 (k:Int)):=h.2.1;obtain ⟨k0,k1,k2,k3,k4,k5⟩:=(HF1 wx hC).out;go_simp
           try (first | (intros; omega) | exact IntWalk.i64_in _ (by omega))
          case o18=>exact ofa (d:=1) rfl rfl (fun _ _=>id) (by kernel_rfl) rfl
          case o19=>exact ol rfl rfl (fun _ _=>id) (by kernel_rfl) (by assumption)
          case o20=>exact ofa (d:=1) rfl rfl (fun _ _=>id) (by kernel_rfl) rfl
          case o21=>exact ol rfl rfl (fun _ _=>id) (by kernel_rfl) (by assumption)
          case o22=>exact omv rfl rfl (fun _ _=>id)
          case o23 =>
           refine AB rfl fun ρ wx hC hcst h => ?_;have e0:ρ (.tmp 48)=(.slice (some ⟨b2,o2,none⟩) m d):=h.1;have e1:ρ (.tmp 49)=(.int .i64 (k:Int)):=h.2.1;obtain ⟨k0,k1,k2,k3,k4,k5⟩:=(HF1 wx hC).out;go_simp
           try (first | (intros; omega) | exact IntWalk.i64_in _ (by omega))
          case o24=>exact ofa (d:=1) rfl rfl (fun _ _=>id) (by kernel_rfl) rfl
          case o25=>exact ol rfl rfl (fun _ _=>id) (by kernel_rfl) (by assumption)
          case o26 =>
           refine Aj rfl fun ρ wx hC hcst hfn h => ?_;have e1:ρ (.tmp 46)=(.slice a1 n1 c1):=h.2.1;have e2:ρ (.tmp 52)=(.slice a2 n2 c2):=h.2.2.1;obtain ⟨k0,k1,k2,k3,k4,k5⟩:=(HF1 wx hC).out;refine ⟨34,#[.slice a1 n1 c1, .slice a2 n2 c2],by go_simp,((HIN wx hC).out).mono ?_⟩;rintro e w' ⟨rfl,hE'⟩;exact ⟨_,rfl,hE'.ext,rfl⟩
          case o27 =>
           refine AB rfl fun ρ wx hC hcst h => ?_;obtain ⟨v0,e0,rfl⟩:=h.1;obtain ⟨k0,k1,k2,k3,k4,k5⟩:=(HF1 wx hC).out;go_simp
          case o28 =>
           refine AB rfl fun ρ wx hC hcst h => ?_;have e0:ρ (.tmp 40)=(.bool false):=h.1;have e2:ρ (.tmp 54)=(.bool (!bq)):=h.2.2.1;obtain ⟨k0,k1,k2,k3,k4,k5⟩:=(HF1 wx hC).out;go_simp
          case fin =>
           intro wx hC;rintro _ rfl;change wpList _ _ _ _ _ _;simp only [List.length_cons,List.length_nil,List.drop_succ_cons,List.drop_zero,Act.put,List.setIfInBounds_toArray,List.set_cons_succ,List.set_cons_zero];cases bq with
           | true =>
            have HEE:=qh (of_decide_eq_true HBQ.out);go_wp2;go_roundw
            case rel=>exact ⟨k+1,by omega,by go_num,hEr.trans hC,qh (O3 HP.out (by have:=HLX.out; omega) (by have:=HLY.out; omega) (Prod.ext HSE.out (by rw [HTE.out.1,HTE.out.2,HEE.out])))⟩
            case measure=>simp [intOf]; omega
           | false =>
            have HNE:Hid (r=false):=qh (HNX.out (Or.inr (of_decide_eq_false HBQ.out)));go_wp2;go_ret;exact ⟨by rw [HNE.out]; rfl,hE.trans hC⟩
        · have hstb:(s1.toList != s2.toList)=true:=bne_iff_ne.2 hse
          have HNE:Hid (r=false):=qh (HNX.out (Or.inl (by
           rw [HST.out.1,HST.out.2];unfold Am;intro h;apply hse;rw [ByteArray.toList_eq,ByteArray.toList_eq]
           exact h)))
          have HF2:=fun (wx:World) (hC:Ext wr wx)=>qh (And.intro (hC.cell q01) (And.intro (hC.cell q11) (And.intro (hC.cell x0) (And.intro (hC.cell x1) (And.intro (hC.cell y0) (hC.cell y1))))))
          refine AM (by kernel_rfl) (fun wx=>Ext wr wx)
           [he (.pointer (some ⟨w.heap.size,1,none⟩)),
 he (.slice (some ⟨b1,o1,none⟩) n c),
 he (.int .i64 (k:Int)),
 he (.pointer (some ⟨b1,(o1+k*2),none⟩)),
 he (.pointer (some ⟨b1,(o1+k*2),none⟩)),
 he (.string s1),
 he (.pointer (some ⟨(w.heap.size+1),1,none⟩)),
 he (.slice (some ⟨b2,o2,none⟩) m d),
 he (.int .i64 (k:Int)),
 he (.pointer (some ⟨b2,(o2+k*2),none⟩)),
 he (.pointer (some ⟨b2,(o2+k*2),none⟩)),
 he (.string s2),
 he (.bool true),
 he (.bool true),
 he undef,
 he undef,
 he undef,
 he undef,
 he undef,
 he undef,
 he undef,
 he undef,
 he undef,
 he undef,
 he undef,
 he undef,
 he undef,
 he undef,
 he (.bool true)]
           (by kernel_rfl) (fun _ _ e h=>h.trans e) ((Ext.refl wr).drew) ⟨trivial,trivial,trivial,trivial,trivial,trivial,trivial,trivial,trivial,trivial,trivial,trivial,trivial,trivial,trivial,trivial,trivial,trivial,trivial,trivial,trivial,trivial,trivial,trivial,trivial,trivial,trivial,trivial,trivial,trivial⟩ ⟨?o0, ?o1, ?o2, ?o3, ?o4, ?o5, ?o6, ?o7, ?o8, ?o9, ?o10, ?o11, ?o12, ?o13, ?o14, ?o15, ?o16, ?o17, ?o18, ?o19, ?o20, ?o21, ?o22, ?o23, ?o24, ?o25, ?o26, ?o27, ?o28,trivial⟩ ?fin
          case o0=>exact ofa (d:=1) rfl rfl (fun _ _=>id) (by kernel_rfl) rfl
          case o1=>exact ol rfl rfl (fun _ _=>id) (by kernel_rfl) (by assumption)
          case o2=>exact omv rfl rfl (fun _ _=>id)
          case o3 =>
           refine AB rfl fun ρ wx hC hcst h => ?_;have e0:ρ (.tmp 28)=(.slice (some ⟨b1,o1,none⟩) n c):=h.1;have e1:ρ (.tmp 29)=(.int .i64 (k:Int)):=h.2.1;obtain ⟨k0,k1,k2,k3,k4,k5⟩:=(HF2 wx hC).out;go_simp
           try (first | (intros; omega) | exact IntWalk.i64_in _ (by omega))
          case o4=>exact ofa (d:=0) rfl rfl (fun _ _=>id) (by kernel_rfl) rfl
          case o5=>exact ol rfl rfl (fun _ _=>id) (by kernel_rfl) (by assumption)
          case o6=>exact ofa (d:=1) rfl rfl (fun _ _=>id) (by kernel_rfl) rfl
          case o7=>exact ol rfl rfl (fun _ _=>id) (by kernel_rfl) (by assumption)
          case o8=>exact omv rfl rfl (fun _ _=>id)
          case o9 =>
           refine AB rfl fun ρ wx hC hcst h => ?_;have e0:ρ (.tmp 34)=(.slice (some ⟨b2,o2,none⟩) m d):=h.1;have e1:ρ (.tmp 35)=(.int .i64 (k:Int)):=h.2.1;obtain ⟨k0,k1,k2,k3,k4,k5⟩:=(HF2 wx hC).out;go_simp
           try (first | (intros; omega) | exact IntWalk.i64_in _ (by omega))
          case o10=>exact ofa (d:=0) rfl rfl (fun _ _=>id) (by kernel_rfl) rfl
          case o11=>exact ol rfl rfl (fun _ _=>id) (by kernel_rfl) (by assumption)
          case o12 =>
           refine AB rfl fun ρ wx hC hcst h => ?_;have e0:ρ (.tmp 32)=(.string s1):=h.1;have e1:ρ (.tmp 38)=(.string s2):=h.2.1;obtain ⟨k0,k1,k2,k3,k4,k5⟩:=(HF2 wx hC).out;go_simp
           try (first | (intros; omega) | exact IntWalk.i64_in _ (by omega))
          case o13=>exact omv rfl rfl (fun _ _=>id)
          case o14=>exact BL rfl
          case o15=>exact BL rfl
          case o16=>exact BL rfl
          case o17=>exact BL rfl
          case o18=>exact BL rfl
          case o19=>exact BL rfl
          case o20=>exact BL rfl
          case o21=>exact BL rfl
          case o22=>exact BL rfl
          case o23=>exact BL rfl
          case o24=>exact BL rfl
          case o25=>exact BL rfl
          case o26=>exact BL rfl
          case o27=>exact BL rfl
          case o28 =>
           refine AB rfl fun ρ wx hC hcst h => ?_;have e0:ρ (.tmp 40)=(.bool true):=h.1;have e2:ρ (.tmp 54)=undef:=h.2.2.1;obtain ⟨k0,k1,k2,k3,k4,k5⟩:=(HF2 wx hC).out;go_simp
          case fin =>
           intro wx hC;change wpList _ _ _ _ _ _;simp only [List.length_cons,List.length_nil,List.drop_succ_cons,List.drop_zero,Act.put,List.setIfInBounds_toArray,List.set_cons_succ,List.set_cons_zero];go_wp2;go_ret;exact ⟨by rw [HNE.out]; rfl,hE.trans hC⟩
      · have HEQ:Hid (r=true):=qh (by
         rw [←HR.out];apply decide_eq_true;refine ⟨by trivial, ?_⟩;have h1:=HP.out;have h2:=HL.out
         rwa [List.take_of_length_le (by have:=HLX.out; omega),List.take_of_length_le (by have:=HLY.out; omega)] at h1)
        go_wp2;go_ret;exact ⟨by rw [HEQ.out]; rfl,hE⟩
   · have hne:((n:Int) != (m:Int))=true:=by simp; omega
     have HNE:Hid (r=false):=qh (by
      rw [←HR.out];apply decide_eq_false;rintro ⟨_,rfl⟩
      exact hl (HLX.out.symm.trans HLY.out))
     clear hl;go_wp2;go_ret;exact ⟨by rw [HNE.out]; rfl,hE0⟩
 · have hvv:(va != vb)=true:=by simpa using hv
   have HNE:Hid (r=false):=qh (by
    rw [←HR.out];apply decide_eq_false;rintro ⟨h,_⟩
    exact hv h)
   clear hv;go_wp2;go_ret;exact ⟨by rw [HNE.out]; rfl,hE0⟩
def Dt (ts:List Tx) (nt d:Nat):Prop:=ts.length≤nt∧∀ t∈ts,t.1.length≤d∧t.2.length≤12
instance (ts:List Tx) (nt d:Nat):Decidable (Dt ts nt d):=inferInstanceAs (Decidable (_∧_))
theorem Fy {ts:List Tx} (hx:CJ w a n c ts) :
 Calls Tryz.prog 8 #[.agg #[.int .i64 va, .slice a n c], .int .i64 nt, .int .i64 d] w fun e w'=>e = .returned (.bool (decide (Dt ts nt d)))∧Ext w w':=by
 have hlx:=hx.len;obtain ⟨rx,hX,_,hqx⟩:=hx;have HQX:=qh hqx;have HLX:=qh hlx;clear hqx hlx;have hmn:=hX.le
 go_enter Tryz.func8,Tryz.ntmps8
 go_upto_region 1 with (fail)
 refine Bq ?_;intro w0 hE0 hB0 hz0;have p00:=hB0.c 0 rfl;have p01:=hB0.c 1 rfl;clear hB0 hz0;by_cases hl:nt<n
 · have HNE:Hid (decide (Dt ts nt d)=false):=qh (by
    apply decide_eq_false;rintro ⟨h,_⟩;have:=HLX.out
    omega)
   have hli:(nt:Int)<(n:Int):=by omega
   clear hl;go_wp2;go_ret;exact ⟨by rw [HNE.out]; rfl,hE0⟩
 · have hli:¬ (nt:Int)<(n:Int):=by omega
   go_wp2
   go_loopw [7] (fun i wr=>∃ k:Nat,k≤n∧i = .int .i64 k∧Ext w0 wr∧Hid (∀ i,i<k→(ts.getD i tm0).1.length≤d∧(ts.getD i tm0).2.length≤12)) (fun i _=>n-(intOf i).toNat)
   case atStart=>exact ⟨0,Nat.zero_le _,rfl,Ext.refl _,qh (fun i hi=>absurd hi (by omega))⟩
   case round =>
    obtain ⟨k,hk,rfl,hEr,HP⟩:=hrel;have hE:=hE0.trans hEr;have q01:=hEr.cell p01;by_cases hlt:k<n
    · obtain ⟨b1,o1,rfl,hc1⟩:=(hX.ext hE).rd (by omega);obtain ⟨s1,a1,n1,c1,hr1,hs1,hx1⟩:=HQX.out k hlt;have x0:=hc1 k hlt 0 (by omega);have x1:=hc1 k hlt 1 (by omega);rw [hr1] at x0 x1;simp only [List.getD_cons_zero,List.getD_cons_succ,Nat.add_zero] at x0 x1;have hln:=hx1.len;have hsl:s1.size=(ts.getD k tm0).1.length:=by rw [←hs1,AJ]
      have HST:Hid (s1.size=(ts.getD k tm0).1.length∧(ts.getD k tm0).2.length=n1):=qh ⟨hsl,hln⟩;have HMM:Hid (ts.getD k tm0∈ts):=qh (by simp [HLX.out,hlt]);clear hc1 hr1 hs1 hx1 hln hsl;by_cases h1:d<s1.size
      · have h1':(d:Int)<(s1.size:Int):=by omega
        have HNE:Hid (decide (Dt ts nt d)=false):=qh (by
         apply decide_eq_false;rintro ⟨_,h⟩;have:=h _ HMM.out;have:=HST.out
         omega)
        go_wp2;go_ret;exact ⟨by rw [HNE.out]; rfl,hE⟩
      · have h1':¬ (d:Int)<(s1.size:Int):=by omega
        by_cases h2:12<n1
        · have h2':(12:Int)<(n1:Int):=by omega
          have HNE:Hid (decide (Dt ts nt d)=false):=qh (by
           apply decide_eq_false;rintro ⟨_,h⟩;have:=h _ HMM.out;have:=HST.out
           omega)
          go_wp2;go_ret;exact ⟨by rw [HNE.out]; rfl,hE⟩
        · have h2':¬ (12:Int)<(n1:Int):=by omega
          have HP2:Hid (∀ i,i<k+1→(ts.getD i tm0).1.length≤d∧(ts.getD i tm0).2.length≤12):=qh (fun i hi=>by
           by_cases e:i=k
           · subst e;have:=HST.out;omega
           · exact HP.out i (by omega))
          go_wp2;go_roundw
          case rel=>exact ⟨k+1,by omega,by go_num,hEr,HP2⟩
          case measure=>simp [intOf]; omega
    · have HEQ:Hid (decide (Dt ts nt d)=true):=qh (by
       apply decide_eq_true;refine ⟨by have:=HLX.out; omega,fun t ht => ?_⟩;obtain ⟨i,hi,rfl⟩:=List.mem_iff_getElem.1 ht;have:=HP.out i (by have:=HLX.out; omega)
       simpa [hi] using this)
      go_wp2;go_ret;exact ⟨by rw [HEQ.out]; rfl,hE⟩
def NLL (ls:List (List Pl.Tm)) (v:Value) (w:World):Prop:=∃ a n c,v = .slice a n c∧n≤1000∧Lq w a n c ls
theorem NLL.x (ls:List (List Pl.Tm)):StX (NLL ls):=fun _ _ _ x ⟨a,n,c,h1,h2,h3⟩=>⟨a,n,c,h1,h2,h3.ext x⟩
def SI (w:World) (va vb:Int) (oa ob:Option (List Pl.Tm)) (e:Ending) (w':World):Prop :=
 (∃ la lb,oa=some la∧ob=some lb∧va=vb∧E0 w (resQ va (la ++ lb)) e w') ∨
 ((oa.isSome && ob.isSome)=true∧va≠vb∧Gs w 0 [] 4 e w')∨((oa.isSome && ob.isSome)=false∧Gs w 0 [] 1 e w')
theorem CJ.nil (w:World):CJ w none 0 0 []:=⟨[],SlK.nil w 2,rfl,fun i hi=>absurd hi (by omega)⟩
theorem Ub (h:(txt q).length≤k+2) (h1:1≤k):q.den<P2 (4*k):=by
 have e:(16:Nat)^k=P2 (4*k):=by unfold P2; rw [Nat.pow_mul]
 have e2:10^k≤16^k:=Nat.pow_le_pow_left (by omega) _;rw [←e];by_cases hd:q.den=1
 · rw [hd];exact Nat.one_lt_pow (by omega) (by omega)
 · have h3:=Ha q.den;have h4:(Lib.decDigits q.den).length≤k:=by
    unfold txt at h;rw [if_neg hd] at h;have h5:0<(Lib.itoa q.num).length:=by
     unfold Lib.itoa;split
     · simp
     · exact List.length_pos_iff.2 (W.dec_ne _)
    simp at h;omega
   exact Nat.lt_of_lt_of_le h3 (Nat.le_trans (Nat.pow_le_pow_right (by omega) h4) e2)
section
variable {va:Int} {ts:List Tx} {l:List Pl.Tm}
theorem Kl (hs:Dt ts nt d) (hd:d≤570):∀ t∈ts,t.1.length≤570:=fun t ht=>Nat.le_trans (hs.2 t ht).1 hd
end
end Go.Proofs.YtlpgonpfjbhmfaaGreatDoor
namespace Go.Proofs.YtlpgonpfjbhmfaaGreatDoor.Pl
theorem lin_congr {F G:List Int→Rat}:∀ {l:List Tm},(∀ t∈l,F t.1=G t.1)→lin F l=lin G l
 | [],_=>rfl
 | t :: r,h=>by
  unfold lin;rw [h t (by simp),lin_congr (l:=r) (fun s hs=>h s (by simp [hs]))]
end Go.Proofs.YtlpgonpfjbhmfaaGreatDoor.Pl
namespace Go.Proofs.YtlpgonpfjbhmfaaGreatDoor
open Go Go.RowKit
variable {a b:List Int}
namespace Pl
theorem plE_len (h:a.length=b.length):(plE a b).length=a.length:=by
 unfold plE;rw [List.length_zipWith,h,Nat.min_self]
end Pl
end Go.Proofs.YtlpgonpfjbhmfaaGreatDoor
