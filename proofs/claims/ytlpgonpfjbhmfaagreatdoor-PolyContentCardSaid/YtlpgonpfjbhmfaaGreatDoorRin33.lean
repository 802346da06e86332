/- Part Rin33. -/
import Derived.Test.YtlpgonpfjbhmfaaGreatDoorRin28
import Derived.Test.YtlpgonpfjbhmfaaGreatDoorRin32
import Derived.Test.YtlpgonpfjbhmfaaGreatDoorRin30
set_option maxRecDepth 100000
set_option maxHeartbeats 100000000
namespace Go.Proofs.YtlpgonpfjbhmfaaGreatDoor
open Go Go.RowKit
theorem degF_pad (k:Nat):∀ (l:List Int) (s:Int),s≤24→degF s (l ++ List.replicate k 0)=degF s l
 | [],s,hs=>by
  induction k with
  | zero=>rfl
  | succ k ih =>
   rw [List.nil_append,List.replicate_succ];unfold degF;rw [if_neg (by omega),Int.add_zero,←List.nil_append (List.replicate k 0),ih];rfl
 | x :: r,s,hs=>by
  rw [List.cons_append];unfold degF;by_cases h:x<0∨24-s<x
  · rw [if_pos h,if_pos h]
  · rw [if_neg h,if_neg h,degF_pad k r (s+x) (by omega)]
theorem validS_pad {l:List Int} (h:l.length≤6):validS (pad6 l)=validS l:=by
 unfold validS degS;rw [if_neg (by rw [pad6_len h]; omega),if_neg (by omega)];unfold pad6;rw [degF_pad _ _ _ (by omega)]
theorem sum_pad (l:List Int):(pad6 l).sum=l.sum:=by
 unfold pad6;rw [List.sum_append];have:∀ k:Nat,(List.replicate k (0:Int)).sum=0:=by
  intro k
  induction k with
  | zero=>rfl
  | succ k ih=>rw [List.replicate_succ,List.sum_cons,ih]; rfl
 rw [this]; omega
theorem ordR_zeros (k:Nat) (a b:List Int):Pl.ordR (List.replicate k 0 ++ a) (List.replicate k 0 ++ b)=Pl.ordR a b:=by
 induction k with
 | zero=>rfl
 | succ k ih =>
  rw [List.replicate_succ,List.cons_append,List.cons_append];show (if (0:Int)=0 then _ else _)=_;rw [if_pos rfl,ih]
theorem ordE_pad {a b:List Int} (h:a.length=b.length):Pl.ordE (pad6 a) (pad6 b)=Pl.ordE a b:=by
 unfold Pl.ordE;rw [sum_pad,sum_pad];have hr:Pl.ordR (pad6 a).reverse (pad6 b).reverse=Pl.ordR a.reverse b.reverse:=by
  unfold pad6;rw [List.reverse_append,List.reverse_append,List.reverse_replicate,List.reverse_replicate,h,ordR_zeros]
 rw [hr]
theorem rdT_parts {vars:Int} {t:Tx} {m:Pl.Tm} (h:rdTerm vars t=some m):readQ t.1=some m.2∧m.2≠0∧(t.2.length:Int)=vars∧(∀ e∈t.2,0≤e∧e≤1048576)∧m.1=pad6 t.2:=by
 unfold rdTerm at h;split at h
 · cases h
 · rename_i q hq;split at h
   · rename_i hc;cases h;exact ⟨hq,hc.1,hc.2.1,hc.2.2,rfl⟩
   · cases h
theorem rdP_parts {vars:Int} {ts:List Tx} {l:List Pl.Tm} (h:rdP vars ts=some l):(0≤vars∧vars≤6)∧ts.length≤4096∧(∀ t r,ts=t :: r→validS t.2=true)∧okT vars ts ts.length∧l=ts.map (fun t=>(rdTerm vars t).getD z6):=by
 unfold rdP at h;split at h
 · rename_i h1;unfold rdWF at h;split at h
   · rename_i h2;cases h;exact ⟨⟨h2.1,h2.2.1⟩,h1.1,h1.2,h2.2.2,rfl⟩
   · cases h
 · cases h
theorem rdP_at {vars:Int} {ts:List Tx} {l:List Pl.Tm} (h:rdP vars ts=some l) {i:Nat} (hi:i<ts.length):rdTerm vars (ts.getD i tm0)=some (l.getD i ([],0)):=by
 obtain ⟨_,_,_,ho,rfl⟩:=rdP_parts h;have h1:=ho.1 i hi;rw [Option.isSome_iff_exists] at h1;obtain ⟨m,hm⟩:=h1;have h2:ts.getD i tm0=ts[i]:=by simp [List.getD_eq_getElem?_getD,hi]
 rw [h2] at hm ⊢;rw [hm];simp [List.getD_eq_getElem?_getD,hi,hm]
theorem rdP_len {vars:Int} {ts:List Tx} {l:List Pl.Tm} (h:rdP vars ts=some l):l.length=ts.length:=by
 obtain ⟨_,_,_,ho,rfl⟩:=rdP_parts h;simp
theorem rdP_mem {vars:Int} {ts:List Tx} {l:List Pl.Tm} (h:rdP vars ts=some l) {m:Pl.Tm} (hm:m∈l):∃ t∈ts,rdTerm vars t=some m:=by
 obtain ⟨i,hi,rfl⟩:=List.mem_iff_getElem.1 hm;have hi2:i<ts.length:=by rw [←rdP_len h]; exact hi
 have h1:=rdP_at h hi2;have h2:l.getD i ([],0)=l[i]:=by simp [List.getD_eq_getElem?_getD,hi]
 have h3:ts.getD i tm0=ts[i]:=by simp [List.getD_eq_getElem?_getD,hi2]
 rw [h2,h3] at h1;exact ⟨ts[i],List.getElem_mem hi2,h1⟩
theorem chain_pos {ts:List Tx} (h:∀ i,i+1<ts.length→0<Pl.ordE (ts.getD i tm0).2 (ts.getD (i+1) tm0).2):∀ d i,i+d+1<ts.length→0<Pl.ordE (ts.getD i tm0).2 (ts.getD (i+d+1) tm0).2
 | 0,i,hi=>h i hi
 | d+1,i,hi=>Pl.ordE_trans (chain_pos h d i (by omega)) (h (i+d+1) (by omega))
theorem rdP_canon {vars:Int} {ts:List Tx} {l:List Pl.Tm} (h:rdP vars ts=some l):Pl.Canon 6 l:=by
 obtain ⟨hv,_,_,ho,_⟩:=rdP_parts h;have hlen:=rdP_len h
 have key:∀ i,i<ts.length→(l.getD i ([],0)).1=pad6 (ts.getD i tm0).2∧((ts.getD i tm0).2.length:Int)=vars:=fun i hi=>by
  obtain ⟨_,_,h3,_,h5⟩:=rdT_parts (rdP_at h hi);exact ⟨h5,h3⟩
 refine ⟨fun m hm => ?_,fun m hm => ?_, ?_⟩
 · obtain ⟨t,ht,hr⟩:=rdP_mem h hm;obtain ⟨_,_,h3,_,h5⟩:=rdT_parts hr;rw [h5,pad6_len (by omega)]
 · obtain ⟨t,ht,hr⟩:=rdP_mem h hm;exact (rdT_parts hr).2.1
 · rw [List.pairwise_iff_getElem];intro i j hi hj hij;have hi2:i<ts.length:=by omega
   have hj2:j<ts.length:=by omega
   have e1:=key i hi2;have e2:=key j hj2;have g1:l.getD i ([],0)=l[i]:=by simp [List.getD_eq_getElem?_getD,hi]
   have g2:l.getD j ([],0)=l[j]:=by simp [List.getD_eq_getElem?_getD,hj]
   rw [g1] at e1;rw [g2] at e2;rw [e1.1,e2.1,ordE_pad (by omega)];have:=chain_pos ho.2 (j-i-1) i (by omega)
   rwa [show i+(j-i-1)+1=j by omega] at this
theorem rdP_wrT {vars:Int} {ts:List Tx} {l:List Pl.Tm} (h:rdP vars ts=some l):wrT vars.toNat l=ts:=by
 have hlen:=rdP_len h;unfold wrT;apply List.ext_getElem
 · simpa using hlen
 · intro i h1 h2;have hi:i<l.length:=by simpa using h1
   obtain ⟨g1,g2,g3,g4,g5⟩:=rdT_parts (rdP_at h h2);have e1:l.getD i ([],0)=l[i]:=by simp [List.getD_eq_getElem?_getD,hi]
   have e2:ts.getD i tm0=ts[i]:=by simp [List.getD_eq_getElem?_getD,h2]
   rw [e1] at g1 g5;rw [e2] at g1 g3 g5;rw [List.getElem_map,←readQ_eq g1,g5,show vars.toNat=(ts[i]).2.length by omega,pad6_take]
theorem rdP_okW {vars:Int} {ts:List Tx} {l:List Pl.Tm} (h:rdP vars ts=some l):okW l:=by
 have hlen:=rdP_len h;obtain ⟨hv,h1,h2,ho,_⟩:=rdP_parts h;refine ⟨by omega,fun m r e => ?_⟩;cases ts with
 | nil=>rw [e] at hlen; simp at hlen
 | cons t s =>
  have h3:=rdP_at h (i:=0) (by simp);rw [e] at h3;obtain ⟨_,_,g3,_,g5⟩:=rdT_parts h3;simp only [List.getD_cons_zero] at g3 g5;rw [g5,validS_pad (by omega)];exact h2 t s rfl
theorem pad6_bnd {l:List Int} {B:Int} (hB:0≤B) (h:∀ e∈l,0≤e∧e≤B):∀ e∈pad6 l,0≤e∧e≤B:=by
 intro e he;rcases List.mem_append.1 he with he|he
 · exact h e he
 · rw [(List.mem_replicate.1 he).2]; omega
theorem rdP_exps {vars:Int} {ts:List Tx} {l:List Pl.Tm} (h:rdP vars ts=some l):∀ t∈l,t.1.length=6∧∀ x∈t.1,0≤x∧x≤1048576:=by
 intro m hm;obtain ⟨t,ht,hr⟩:=rdP_mem h hm;obtain ⟨_,_,g3,g4,g5⟩:=rdT_parts hr;exact ⟨(rdP_canon h).len m hm,by rw [g5]; exact pad6_bnd (by omega) g4⟩
theorem dec_bnd (n:Nat):n<10^(Lib.decDigits n).length:=by
 have:=W.decV_lt (W.digs_dec n)
 rwa [W.decV_dec] at this
theorem txt_dec (q:Rat):q.num.natAbs<10^(txt q).length∧q.den<10^(txt q).length:=by
 have h1:=dec_bnd q.num.natAbs;have h2:(Lib.decDigits q.num.natAbs).length≤(Lib.itoa q.num).length:=by
  unfold Lib.itoa;split
  · simp
  · have e:q.num.toNat=q.num.natAbs:=by omega
    simp [e]
 have h0:0<(Lib.decDigits q.num.natAbs).length:=List.length_pos_iff.2 (W.dec_ne _);have hlen:(Lib.itoa q.num).length≤(txt q).length:=by unfold txt; rw [List.length_append]; omega
 refine ⟨Nat.lt_of_lt_of_le h1 (Nat.pow_le_pow_right (by omega) (by omega)), ?_⟩;by_cases hd:q.den=1
 · rw [hd];exact Nat.one_lt_pow (by omega) (by omega)
 · have h3:=dec_bnd q.den;refine Nat.lt_of_lt_of_le h3 (Nat.pow_le_pow_right (by omega) ?_);unfold txt;rw [if_neg hd];simp;omega
theorem txt_RB {q:Rat} {k:Nat} (h:(txt q).length≤k):Pl.RB (4*k) q:=by
 have h1:=txt_dec q;have h2:10^(txt q).length≤P2 (4*k):=by
  refine Nat.le_trans (Nat.pow_le_pow_right (by omega) h) ?_;unfold P2;rw [Nat.pow_mul];exact Nat.pow_le_pow_left (by omega) _
 exact ⟨by omega,by omega⟩
theorem rdP_RB {vars:Int} {ts:List Tx} {l:List Pl.Tm} {k:Nat} (h:rdP vars ts=some l) (hs:∀ t∈ts,t.1.length≤k):∀ t∈l,Pl.RB (4*k) t.2:=by
 intro m hm;obtain ⟨t,ht,hr⟩:=rdP_mem h hm;have h1:=readQ_eq (rdT_parts hr).1;exact txt_RB (by rw [←h1]; exact hs t ht)
theorem RB.str {q:Rat} {b:Nat} (h:Pl.RB b q) (hb:b≤1920):StrOK q:=strOK_big (P2_lt h.1 hb) (P2_lt h.2 hb)
theorem lcmD_bnd {l:List Rat} {b:Nat} (h:∀ q∈l,q.den<P2 b):lcmD l<P2 (b*l.length+1):=by
 have key:∀ (l:List Rat) (a c:Nat),a<P2 c→(∀ q∈l,q.den<P2 b)→l.foldl (fun a q=>a*(q.den/Nat.gcd a q.den)) a<P2 (b*l.length+c):=by
  intro l
  induction l with
  | nil=>intro a c ha _; simpa using ha
  | cons q r ih =>
   intro a c ha h;rw [List.foldl_cons,List.length_cons,Nat.mul_add,Nat.mul_one,Nat.add_assoc];refine ih _ (b+c) ?_ (fun s hs=>h s (by simp [hs]));rw [Nat.add_comm b c];exact P2_mul ha (Nat.lt_of_le_of_lt (Nat.div_le_self _ _) (h q (by simp)))
 exact key l 1 1 (by unfold P2; omega) h
theorem rdP_cn {vars:Int} {ts:List Tx} {l p:List Pl.Tm} (h:rdP vars ts=some l) (hc:∀ e,Pl.coef p e=Pl.coef l e):cnP p=l:=cnP_eq (rdP_canon h) (fun e=>(hc e).symm)
theorem rdP_resQ {vars:Int} {ts:List Tx} {l p:List Pl.Tm} (h:rdP vars ts=some l) (hc:∀ e,Pl.coef p e=Pl.coef l e):resQ vars p=(vars,ts,0):=by
 unfold resQ;rw [rdP_cn h hc,if_pos (rdP_okW h),rdP_wrT h]
theorem canon_nrm {l:List Pl.Tm} (h:Pl.Canon 6 l):Pl.Nrm l:=by
 refine ⟨h.len,h.nz, ?_⟩;unfold List.Nodup;rw [List.pairwise_map];refine h.desc.imp ?_;intro a b hab e;rw [e,Pl.ordE_self] at hab;omega
theorem sclR_nrm {q:Rat} {l:List Pl.Tm} (h:Pl.Nrm l):Pl.Nrm (sclR q l):=by
 unfold sclR;split
 · exact Pl.Nrm.nil
 · rename_i hq;refine ⟨fun t ht => ?_,fun t ht => ?_, ?_⟩
   · obtain ⟨s,hs,rfl⟩:=List.mem_map.1 ht;exact h.len s hs
   · obtain ⟨s,hs,rfl⟩:=List.mem_map.1 ht;have h0:=h.nz s hs;intro h1;rcases Rat.mul_eq_zero.1 h1 with h2|h2
     · exact h0 h2
     · exact hq h2
   · rw [List.map_map];exact h.nodup
theorem RatSl.len {w:World} {a:Option Addr} {n c:Nat} {l:List Rat} (h:RatSl w a n c l):l.length=n:=by
 obtain ⟨_,_,h,_⟩:=h;exact h
theorem rdAll_len {xs:List (List UInt8)} {pt:List Rat} (h:rdAll xs=some pt):pt.length=xs.length:=by
 unfold rdAll at h;split at h
 · cases h; simp
 · cases h
def RetTxt (w:World) (s:List UInt8) (err:Int) (e:Ending) (w':World):Prop:=e = .returned (.tuple #[.string ⟨s.toArray⟩, .int .i64 err])∧Ext w w'
def RetEv (w:World) (va:Int) (m:Nat) (ol:Option (List Pl.Tm)) (op:Option (List Rat)) (e:Ending) (w':World):Prop :=
 (∃ l pt,ol=some l∧op=some pt∧(m:Int)=va∧RetTxt w (txt (Pl.evq pt l)) 0 e w') ∨
 ((ol.isSome && op.isSome)=true∧(m:Int)≠va∧RetTxt w [] 4 e w')∨((ol.isSome && op.isSome)=false∧RetTxt w [] 1 e w')
theorem poly_Eval {va:Int} {a b:Option Addr} {n c m d:Nat} {ts:List Tx} {xs:List (List UInt8)} {w:World} (hT:Tabs w) (ha:TmSl w a n c ts) (hb:StrSl w b m d xs) (sa:∀ t∈ts,t.1.length≤570) (sb:∀ t∈xs,t.length≤570) (hm:m≤1000000)
 (hok:∀ l pt,rdP va ts=some l→rdAll xs=some pt→(m:Int)=va→EvB l pt∧StrOK (Pl.evq pt l)) :
 Calls Tryz.prog 18 #[.agg #[.int .i64 va, .slice a n c], .slice b m d] w (RetEv w va m (rdP va ts) (rdAll xs)):=by
 have hrp:=fun (wx:World) (hC:Ext w wx)=>qh (poly_read (vars:=va) (hT.ext hC) (ha.ext hC) sa);have hra:=fun (wx:World) (hC:Ext w wx)=>qh (rat_ReadAll (hT.ext hC) (hb.ext hC) sb hm);have hxl:xs.length=m:=by obtain ⟨_,_,h,_⟩:=hb; exact h
 have HB:Hid (∀ l pt,rdP va ts=some l→rdAll xs=some pt→l.length≤4096∧0≤va∧va≤6∧pt.length=m):=qh (fun l pt h1 h2=>⟨by rw [rdP_len h1]; exact (rdP_parts h1).2.1,(rdP_parts h1).1.1,(rdP_parts h1).1.2,by rw [rdAll_len h2,hxl]⟩);have HOK:=qh hok;obtain ⟨ol,hol⟩:∃ o,rdP va ts=o:=⟨_,rfl⟩;obtain ⟨op,hop⟩:∃ o,rdAll xs=o:=⟨_,rfl⟩;rw [hol] at hrp HB HOK ⊢;rw [hop] at hra HB HOK ⊢;clear hol hop sa sb ha hb hok hxl
 go_enter Tryz.func18,Tryz.ntmps18
 go_upto_region 1 with (fail)
 refine box1 ?_;intro w0 hE0 hB0 hz0;have p00:=hB0.c 0 rfl;have p01:=hB0.c 1 rfl;clear hB0 hz0
 go_wp2_with fail
 refine (hrp _ hE0).out.mono ?_;rintro e w1 ⟨a1,n1,c1,rfl,hE1,hL1⟩;have hE01:=hE0.trans hE1;have p00:=hE1.cell p00;clear hE0 hE1 hrp p01
 go_wp2_with fail
 refine (hra _ hE01).out.mono ?_;rintro e w2 ⟨a2,n2,c2,rfl,hE2,hP2⟩;have hEw:=hE01.trans hE2;have hL2:=hL1.ext hE2;have p00:=hE2.cell p00;clear hE01 hE2 hra hL1;cases ol with
 | none =>
  simp only [Option.isSome_none];go_wp2
  go_ret2
  exact Or.inr (Or.inr ⟨rfl,rfl,hEw⟩)
 | some l =>
  cases op with
  | none =>
   simp only [Option.isSome_none,Option.isSome_some];go_wp2
   go_ret2
   exact Or.inr (Or.inr ⟨rfl,rfl,hEw⟩)
  | some pt =>
   simp only [Option.isSome_some,Option.getD_some] at hL2 hP2 ⊢;have hb:=HB.out l pt rfl rfl;by_cases hv:(m:Int)=va
   · have hvv:((m:Int) != va)=false:=by simp [hv]
     have hOK:=HOK.out l pt rfl rfl hv;have hpl:pt.length=n2:=hP2.len;have hll:l.length=n1:=hL2.len;have HEV:=qh (poly_eval (hT.ext hEw) hL2 hP2 (by omega) (by omega) hOK.1);have HST:=qh hOK.2;have HV:=qh hv;clear hOK hv HOK HB hL2 hP2
     go_wp2_with fail
     refine HEV.out.mono ?_;rintro e w3 ⟨cs,rfl,hE3,hr3⟩;have hEw3:=hEw.trans hE3;have HSS:=qh (HST.out w3 (.agg cs.toArray) (hT.ext hEw3) ⟨cs,rfl,hr3⟩);clear HEV hr3
     go_wp2_with fail
     refine HSS.out.mono ?_;rintro e w4 ⟨rfl,hE4⟩;go_wp2
     go_ret2
     exact Or.inl ⟨l,pt,rfl,rfl,HV.out,rfl,hEw3.trans hE4⟩
   · have hvv:((m:Int) != va)=true:=by simpa using hv
     have HV:=qh hv;clear hv;go_wp2
     go_ret2
     exact Or.inr (Or.inl ⟨rfl,HV.out,rfl,hEw⟩)
theorem degF_sum:∀ (l:List Int) (s:Int),s≤24→0≤s→0≤degF s l→degF s l=s+l.sum∧s+l.sum≤24∧∀ x∈l,0≤x
 | [],s,h1,h2,_=>⟨by simp [degF],by simpa using h1,by simp⟩
 | x :: r,s,h1,h2,h=>by
  unfold degF at h ⊢;by_cases hc:x<0∨24-s<x
  · rw [if_pos hc] at h; omega
  · rw [if_neg hc] at h ⊢;obtain ⟨g1,g2,g3⟩:=degF_sum r (s+x) (by omega) (by omega) h;refine ⟨by rw [g1,List.sum_cons]; omega,by rw [List.sum_cons]; omega,fun y hy => ?_⟩;rcases List.mem_cons.1 hy with rfl|hy
    · omega
    · exact g3 y hy
theorem sum_nn:∀ {l:List Int},(∀ x∈l,0≤x)→0≤l.sum∧∀ x∈l,x≤l.sum
 | [],_=>by simp
 | y :: r,h=>by
  obtain ⟨h1,h2⟩:=sum_nn (l:=r) (fun x hx=>h x (by simp [hx]));have h3:=h y (by simp);rw [List.sum_cons];refine ⟨by omega,fun x hx => ?_⟩;rcases List.mem_cons.1 hx with rfl|hx
  · omega
  · have:=h2 x hx; omega
theorem degF_back:∀ (l:List Int) (s:Int),0≤s→(∀ x∈l,0≤x)→s+l.sum≤24→degF s l=s+l.sum
 | [],s,_,_,_=>by simp [degF]
 | x :: r,s,h1,h2,h3=>by
  have hr:=sum_nn (l:=r) (fun y hy=>h2 y (by simp [hy]));have hx:=h2 x (by simp);rw [List.sum_cons] at h3 ⊢;unfold degF;rw [if_neg (by omega),degF_back r (s+x) (by omega) (fun y hy=>h2 y (by simp [hy])) (by omega)];omega
theorem validS_iff {l:List Int}:validS l=true↔l.length≤6∧(∀ x∈l,0≤x)∧l.sum≤24:=by
 unfold validS degS;rw [decide_eq_true_iff];constructor
 · intro h;split at h
   · omega
   · obtain ⟨h1,h2,h3⟩:=degF_sum l 0 (by omega) (by omega) h;exact ⟨by omega,h3,by omega⟩
 · rintro ⟨h1,h2,h3⟩;rw [if_neg (by omega),degF_back l 0 (by omega) h2 (by omega)];have:=(sum_nn h2).1;omega
theorem ordE_sum {a b:List Int} (h:0<Pl.ordE a b):b.sum≤a.sum:=by
 unfold Pl.ordE at h;split at h
 · omega
 · have:=Pl.cmpI_pos.1 h; omega
def InV (vars:Nat) (e:List Int):Prop:=e.length=6∧(∀ x∈e,0≤x)∧pad6 (e.take vars)=e
theorem InV.pad {vars:Nat} {l:List Int} (h:l.length=vars) (hv:vars≤6) (hn:∀ x∈l,0≤x):InV vars (pad6 l):=by
 refine ⟨pad6_len (by omega),fun x hx => ?_,by rw [←h,pad6_take]⟩;rcases List.mem_append.1 hx with hx|hx
 · exact hn x hx
 · rw [(List.mem_replicate.1 hx).2]; omega
theorem canon_sum {t:Pl.Tm} {r:List Pl.Tm} (h:Pl.Canon 6 (t :: r)):∀ s∈t :: r,s.1.sum≤t.1.sum:=by
 intro s hs;rcases List.mem_cons.1 hs with rfl|hs
 · omega
 · exact ordE_sum ((List.pairwise_cons.1 h.desc).1 s hs)
theorem rdTerm_back {vars:Nat} {t:Pl.Tm} (hv:vars≤6) (h:InV vars t.1) (hz:t.2≠0) (hs:t.1.sum≤24):rdTerm vars (txt t.2,t.1.take vars)=some t:=by
 unfold rdTerm;simp only [readQ_txt];have hl:(t.1.take vars).length=vars:=by rw [List.length_take,h.1]; omega
 rw [if_pos ⟨hz,by rw [hl],fun e he=>by
  have h1:=List.mem_of_mem_take he;have h2:=sum_nn h.2.1;have:=h.2.1 e h1;have:=h2.2 e h1
  omega⟩,h.2.2]
theorem rdP_back {vars:Nat} {l:List Pl.Tm} (hv:vars≤6) (hc:Pl.Canon 6 l) (hk:okW l) (hi:∀ t∈l,InV vars t.1):rdP vars (wrT vars l)=some l:=by
 have hsum:∀ t∈l,t.1.sum≤24:=by
  cases l with
  | nil=>simp
  | cons t r =>
   intro s hs;have h1:=canon_sum hc s hs;have h2:=(validS_iff.1 (hk.2 t r rfl)).2.2;omega
 have hrt:∀ t∈l,rdTerm vars (txt t.2,t.1.take vars)=some t:=fun t ht=>rdTerm_back hv (hi t ht) (hc.nz t ht) (hsum t ht);have hlen:(wrT vars l).length=l.length:=by simp [wrT]
 have hget:∀ i,i<l.length→(wrT vars l).getD i tm0=(txt (l.getD i ([],0)).2,(l.getD i ([],0)).1.take vars)∧l.getD i ([],0)∈l:=fun i hi=>by
  refine ⟨?_,by simp [List.getD_eq_getElem?_getD,hi]⟩;simp [wrT,List.getD_eq_getElem?_getD,hi]
 unfold rdP;rw [if_pos]
 · unfold rdWF;rw [if_pos]
   · congr 1;unfold wrT;rw [List.map_map]
     conv=>rhs; rw [←List.map_id l]
     apply List.map_congr_left;intro t ht;simp only [Function.comp_apply,hrt t ht,Option.getD_some,id_eq]
   · refine ⟨by omega,by omega,fun i h => ?_,fun i h => ?_⟩
     · obtain ⟨h1,h2⟩:=hget i (by omega);rw [h1,hrt _ h2];rfl
     · obtain ⟨h1,h2⟩:=hget i (by omega);obtain ⟨h3,h4⟩:=hget (i+1) (by omega);rw [h1,h3];have e1:=hi _ h2;have e2:=hi _ h4;have hla:((l.getD i ([],0)).1.take vars).length=((l.getD (i+1) ([],0)).1.take vars).length:=by rw [List.length_take,List.length_take,e1.1,e2.1]
       rw [←ordE_pad hla,e1.2.2,e2.2.2];have hp:=List.pairwise_iff_getElem.1 hc.desc i (i+1) (by omega) (by omega) (by omega);simpa [List.getD_eq_getElem?_getD,show i<l.length by omega,show i+1<l.length by omega] using hp
 · refine ⟨by rw [hlen]; exact hk.1,fun t r e => ?_⟩;cases l with
   | nil=>simp [wrT] at e
   | cons m s =>
    have e':(txt m.2,m.1.take vars) :: wrT vars s=t :: r:=e;simp only [List.cons.injEq] at e';rw [←e'.1];have h1:=hi m (by simp);show validS (m.1.take vars)=true;rw [←validS_pad (by rw [List.length_take]; omega),h1.2.2];exact hk.2 m s rfl
theorem keys_ex:∀ (l:List (List Int)),∃ k:List (List Int),k.Nodup∧∀ e,e∈k↔e∈l
 | []=>⟨[],List.nodup_nil,fun _=>Iff.rfl⟩
 | x :: r=>by
  obtain ⟨k,h1,h2⟩:=keys_ex r;by_cases h:x∈k
  · refine ⟨k,h1,fun e => ?_⟩;rw [h2,List.mem_cons];constructor
    · exact Or.inr
    · rintro (rfl|h3)
      · exact (h2 _).1 h
      · exact h3
  · exact ⟨x :: k,List.nodup_cons.2 ⟨h,h1⟩,fun e=>by rw [List.mem_cons,List.mem_cons,h2]⟩
theorem coef_keys (F:List Int→Rat):∀ (k:List (List Int)) (_:k.Nodup) (e:List Int),Pl.coef (k.map (fun x=>(x,F x))) e=if e∈k then F e else 0
 | [],_,e=>by simp [Pl.coef]
 | x :: r,h,e=>by
  have h1:=List.nodup_cons.1 h;have ih:=coef_keys F r h1.2 e;rw [List.map_cons];unfold Pl.coef;rw [ih];by_cases hx:x=e
  · subst hx;rw [if_pos rfl,if_neg h1.1,if_pos (by simp)];exact Rat.add_zero _
  · rw [if_neg hx];by_cases he:e∈r
    · rw [if_pos he,if_pos (by simp [he])]; exact Rat.zero_add _
    · rw [if_neg he,if_neg (by simp [he,Ne.symm hx])]; exact Rat.zero_add _
theorem nrm_ex {p:List Pl.Tm} (h6:∀ t∈p,t.1.length=6):∃ out,Pl.Nrm out∧∀ e,Pl.coef out e=Pl.coef p e:=by
 obtain ⟨k,h1,h2⟩:=keys_ex (p.map (·.1));refine ⟨(k.map (fun x=>(x,Pl.coef p x))).filter (fun t=>decide (t.2≠0)),Pl.Nrm.filter ?_ ?_,fun e => ?_⟩
 · intro t ht;obtain ⟨x,hx,rfl⟩:=List.mem_map.1 ht;obtain ⟨s,hs,rfl⟩:=List.mem_map.1 ((h2 x).1 hx);exact h6 s hs
 · rw [List.map_map];have:((fun t:Pl.Tm=>t.1) ∘ fun x=>(x,Pl.coef p x))=id:=rfl;rw [this,List.map_id];exact h1
 · rw [Pl.coef_nz,coef_keys _ k h1];by_cases he:e∈k
   · rw [if_pos he]
   · rw [if_neg he];refine (Pl.coef_absent fun t ht h=>he ((h2 e).2 ?_)).symm;rw [←h];exact List.mem_map_of_mem ht
theorem cnP_spec {p:List Pl.Tm} (h6:∀ t∈p,t.1.length=6):Pl.Canon 6 (cnP p)∧∀ e,Pl.coef (cnP p) e=Pl.coef p e:=by
 obtain ⟨out,h1,h2⟩:=nrm_ex h6;obtain ⟨l,h3,h4⟩:=sorted_ex out h1.len;have hl:=h1.perm h3.symm;have hc:Pl.Canon 6 l:=Pl.canon_of_sorted hl.len hl.nz h4 hl.nodup;have e:cnP p=l:=cnP_sorted h1 h2 h3 h4;rw [e];exact ⟨hc,fun e=>by rw [Pl.coef_perm h3,h2]⟩
theorem cnP_key {p:List Pl.Tm} (h6:∀ t∈p,t.1.length=6) {t:Pl.Tm} (ht:t∈cnP p):∃ s∈p,s.1=t.1:=by
 obtain ⟨h1,h2⟩:=cnP_spec h6;have h3:Pl.coef p t.1≠0:=by
  rw [←h2,Pl.coef_mem (canon_nrm h1).nodup ht];exact h1.nz t ht
 exact Pl.coef_present h3
theorem cnP_InV {p:List Pl.Tm} {vars:Nat} (hi:∀ t∈p,InV vars t.1):∀ t∈cnP p,InV vars t.1:=fun t ht=>by
 obtain ⟨s,hs,e⟩:=cnP_key (fun t ht=>(hi t ht).1) ht;rw [←e];exact hi s hs
theorem resQ_back {p:List Pl.Tm} {vars:Nat} (hv:vars≤6) (hi:∀ t∈p,InV vars t.1):(okW (cnP p)∧resQ (vars:Int) p=((vars:Int),wrT vars (cnP p),0)∧rdP vars (wrT vars (cnP p))=some (cnP p))∨(¬ okW (cnP p)∧resQ (vars:Int) p=(0,[],2)):=by
 by_cases hk:okW (cnP p)
 · refine Or.inl ⟨hk, ?_,rdP_back hv (cnP_spec (fun t ht=>(hi t ht).1)).1 hk (cnP_InV hi)⟩;unfold resQ;rw [if_pos hk,Int.toNat_natCast]
 · refine Or.inr ⟨hk, ?_⟩;unfold resQ;rw [if_neg hk]
theorem rdP_InV {vars:Nat} {ts:List Tx} {l:List Pl.Tm} (h:rdP vars ts=some l):∀ t∈l,InV vars t.1:=by
 intro m hm;obtain ⟨t,ht,hr⟩:=rdP_mem h hm;obtain ⟨_,_,g3,g4,g5⟩:=rdT_parts hr;rw [g5];exact InV.pad (by omega) (by have:=(rdP_parts h).1; omega) (fun x hx=>(g4 x hx).1)
theorem sumOK_of {p:List Pl.Tm} {b:Nat} (hb:1≤b) (h:∀ t∈p,Pl.RB b t.2) (hl:p.length*(b+1)+1≤2400) (hf:FitsP p):SumOK p:=by
 refine ⟨fun a s e x => ?_,fun t ht=>(h t ht).mono ?_,hf⟩
 · have h1:∀ t∈a,Pl.RB b t.2:=fun t ht=>h t (by rw [←e]; simp [ht]);refine (Pl.RB.coef hb x h1).mono (Nat.le_trans ?_ hl);have:a.length≤p.length:=by rw [←e]; simp
   have:=Nat.mul_le_mul_right (b+1) this;omega
 · have:1≤p.length:=List.length_pos_of_mem ht;have:=Nat.mul_le_mul_right (b+1) this;omega
theorem fits_of {p X:List Pl.Tm} (hc:∀ e,Pl.coef p e=Pl.coef X e) (hX:Pl.Canon 6 X) (hs:∀ t∈X,StrOK t.2∧∀ x∈t.1,0≤x∧x≤1099511627776) (hl:p.length≤1000000):FitsP p:=by
 refine ⟨fun e he => ?_,hl⟩;rw [hc e] at he ⊢;obtain ⟨t,ht,rfl⟩:=Pl.coef_present he;rw [Pl.coef_mem (canon_nrm hX).nodup ht];exact ⟨(hs t ht).1,hX.len t ht,(hs t ht).2⟩
theorem RB_lit {q:Rat} {b:Nat} (h1:q.num.natAbs<8) (h2:q.den<8) (hb:3≤b):Pl.RB b q:=by
 have e:P2 3=8:=by unfold P2; decide
 exact ⟨P2_lt (a:=3) (by omega) hb,P2_lt (a:=3) (by omega) hb⟩
namespace Aw
def s1:List UInt8:=[49]
def s12:List UInt8:=[49,47,50]
def sm12:List UInt8:=[45,49,47,50]
def s7:List UInt8:=[55]
def s14:List UInt8:=[49,47,52]
theorem dec1:Lib.decDigits 1=[49]:=by rw [Lib.decDigits]; rfl
theorem dec2:Lib.decDigits 2=[50]:=by rw [Lib.decDigits]; rfl
theorem dec4:Lib.decDigits 4=[52]:=by rw [Lib.decDigits]; rfl
theorem dec7:Lib.decDigits 7=[55]:=by rw [Lib.decDigits]; rfl
theorem txt_one:txt 1=s1:=by
 unfold txt Lib.itoa;rw [if_neg (by decide),if_pos (by decide)];show Lib.decDigits 1 ++ []=_;rw [dec1]; rfl
theorem txt_7:txt 7=s7:=by
 unfold txt Lib.itoa;rw [if_neg (by decide),if_pos (by decide)];show Lib.decDigits 7 ++ []=_;rw [dec7]; rfl
theorem txt_12:txt (mkRat 1 2)=s12:=by
 unfold txt Lib.itoa;rw [if_neg (by decide),if_neg (by decide)];show Lib.decDigits 1 ++ 47 :: Lib.decDigits 2=_;rw [dec1,dec2]; rfl
theorem txt_m12:txt (mkRat (-1) 2)=sm12:=by
 unfold txt Lib.itoa;rw [if_pos (by decide),if_neg (by decide)];show (45 :: Lib.decDigits 1) ++ 47 :: Lib.decDigits 2=_;rw [dec1,dec2]; rfl
theorem txt_14:txt (mkRat 1 4)=s14:=by
 unfold txt Lib.itoa;rw [if_neg (by decide),if_neg (by decide)];show Lib.decDigits 1 ++ 47 :: Lib.decDigits 4=_;rw [dec1,dec4]; rfl
theorem rd_1:readQ s1=some 1:=by rw [←txt_one,readQ_txt]
theorem rd_7:readQ s7=some 7:=by rw [←txt_7,readQ_txt]
theorem rd_12:readQ s12=some (mkRat 1 2):=by rw [←txt_12,readQ_txt]
theorem rd_m12:readQ sm12=some (mkRat (-1) 2):=by rw [←txt_m12,readQ_txt]
def e0:List Int:=[1,0,0,0,0,0]
def e00:List Int:=[2,0,0,0,0,0]
def e01:List Int:=[1,1,0,0,0,0]
def X1:List Pl.Tm:=[(e0,1)]
def X2:List Pl.Tm:=[(e00,1)]
def T1:List Tx:=[(s1,[1,0])]
def T2:List Tx:=[(s1,[2,0])]
def M:List Tx:=[(s12,[1,1]),(s1,[1,0]),(sm12,[1,1])]
theorem canon1:Pl.Canon 6 X1:=⟨by simp [X1,e0],by simp [X1],List.pairwise_singleton _ _⟩
theorem canon2:Pl.Canon 6 X2:=⟨by simp [X2,e00],by simp [X2],List.pairwise_singleton _ _⟩
theorem wr1:wrT 2 X1=T1:=by unfold wrT X1 T1; simp [txt_one,e0]
theorem wr2:wrT 2 X2=T2:=by unfold wrT X2 T2; simp [txt_one,e00]
theorem rd1:rdP 2 T1=some X1:=by
 rw [←wr1];refine rdP_back (vars:=2) (by omega) canon1 ⟨by decide,fun t r e => ?_⟩ (fun t ht => ?_)
 · simp only [X1,List.cons.injEq] at e;rw [←e.1]; decide
 · simp only [X1,List.mem_singleton] at ht;subst ht;exact ⟨rfl,by decide,by decide⟩
theorem rd2:rdP 2 T2=some X2:=by
 rw [←wr2];refine rdP_back (vars:=2) (by omega) canon2 ⟨by decide,fun t r e => ?_⟩ (fun t ht => ?_)
 · simp only [X2,List.cons.injEq] at e;rw [←e.1]; decide
 · simp only [X2,List.mem_singleton] at ht;subst ht;exact ⟨rfl,by decide,by decide⟩
theorem mk_eq:M.map mkTm=[(e01,mkRat 1 2),(e0,1),(e01,mkRat (-1) 2)]:=by
 simp only [M,mkTm,List.map_cons,List.map_nil,rd_1,rd_12,rd_m12,Option.getD_some];rfl
theorem mk_coef (e:List Int):Pl.coef (M.map mkTm) e=Pl.coef X1 e:=by
 rw [mk_eq];by_cases h1:e01=e
 · subst h1;have:e0≠e01:=by decide
   have hm:mkRat (-1) 2 = -(mkRat 1 2):=by decide
   simp only [Pl.coef,X1,if_true,if_neg this,hm]
   grind
 · by_cases h2:e0=e
   · subst h2;simp only [Pl.coef,X1,if_true,if_neg h1]
     grind
   · simp only [Pl.coef,X1,if_neg h1,if_neg h2]
     grind
theorem mk_ok:∀ t∈M,mkOK 2 t:=by
 intro t ht;simp only [M,List.mem_cons,List.not_mem_nil,or_false] at ht;rcases ht with rfl|rfl|rfl
 · exact ⟨by rw [rd_12]; rfl,rfl,by decide⟩
 · exact ⟨by rw [rd_1]; rfl,rfl,by decide⟩
 · exact ⟨by rw [rd_m12]; rfl,rfl,by decide⟩
theorem str1:∀ t∈X1,StrOK t.2∧∀ x∈t.1,0≤x∧x≤1099511627776:=by
 intro t ht;simp only [X1,List.mem_singleton] at ht;subst ht;exact ⟨strOK_small (by decide) (by decide),by decide⟩
theorem str2:∀ t∈X2,StrOK t.2∧∀ x∈t.1,0≤x∧x≤1099511627776:=by
 intro t ht;simp only [X2,List.mem_singleton] at ht;subst ht;exact ⟨strOK_small (by decide) (by decide),by decide⟩
theorem mk_sum:SumOK (M.map mkTm):=by
 refine sumOK_of (b:=3) (by omega) ?_ (by rw [mk_eq]; decide) (fits_of mk_coef canon1 str1 (by rw [mk_eq]; decide));rw [mk_eq];intro t ht;simp only [List.mem_cons,List.not_mem_nil,or_false] at ht;rcases ht with rfl|rfl|rfl
 · exact RB_lit (by decide) (by decide) (by omega)
 · exact RB_lit (by decide) (by decide) (by omega)
 · exact RB_lit (by decide) (by decide) (by omega)
theorem mk_res:resQ 2 (M.map mkTm)=(2,T1,0):=rdP_resQ rd1 mk_coef
theorem var_res:resQ 2 [(unitE 0,1)]=(2,T1,0):=rdP_resQ rd1 (fun _=>rfl)
theorem mul_coef (e:List Int):Pl.coef (Pl.prodT X1 X1) e=Pl.coef X2 e:=by
 have:Pl.prodT X1 X1=X2:=by
  show [(Pl.plE e0 e0,(1:Rat)*1)]=_;rw [Rat.mul_one];rfl
 rw [this]
theorem rb1:∀ t∈X1,Pl.RB 1000 t.2:=by
 intro t ht;simp only [X1,List.mem_singleton] at ht;subst ht;exact RB_lit (by decide) (by decide) (by omega)
theorem mul_ok:MulOK X1 X1 where
 ba:=rb1
 bb:=rb1
 ea:=fun t ht=>⟨canon1.len t ht,(str1 t ht).2⟩
 eb:=fun t ht=>⟨canon1.len t ht,(str1 t ht).2⟩
 lla:=P2_lt (a:=1) (by decide) (by omega)
 llb:=P2_lt (a:=1) (by decide) (by omega)
 na:=by decide
 nb:=by decide
 fits:=fits_of mul_coef canon2 str2 (by decide)
theorem mul_res:resQ 2 (Pl.prodT X1 X1)=(2,T2,0):=rdP_resQ rd2 mul_coef
theorem mul_deg:¬ (X1≠[]∧X1≠[]∧24<degL X1+degL X1):=by decide
def Pt:List Rat:=[mkRat 1 2,7]
theorem pt_rd:rdAll [s12,s7]=some Pt:=by
 unfold rdAll;rw [if_pos]
 · simp only [List.map_cons,List.map_nil,rd_12,rd_7,Option.getD_some];rfl
 · intro i hi;have:i=0∨i=1:=by simp at hi; omega
   rcases this with rfl|rfl
   · show (readQ s12).isSome=true;rw [rd_12]; rfl
   · show (readQ s7).isSome=true;rw [rd_7]; rfl
theorem ev_val:Pl.evq Pt X2=mkRat 1 4:=by
 show (1:Rat)*((1*(mkRat 1 2)^2)*(7:Rat)^0)+0=_;have h:mkRat 1 2*mkRat 1 2=mkRat 1 4:=by rw [Rat.mkRat_mul_mkRat]; rfl
 rw [Rat.pow_zero,Rat.pow_succ,Rat.pow_succ,Rat.pow_zero,Rat.one_mul,Rat.one_mul,Rat.one_mul,Rat.mul_one,Rat.add_zero,h]
theorem ev_str:StrOK (Pl.evq Pt X2):=by rw [ev_val]; exact strOK_small (by decide) (by decide)
theorem small64 {x:Nat} (h:x<1000) {b:Nat} (hb:10≤b):x<P2 b:=P2_lt (a:=10) (by unfold P2; omega) hb
theorem ev_ok:EvB X2 Pt where
 co:=by
  intro t ht;simp only [X2,List.mem_singleton] at ht;subst ht;exact RB_lit (by decide) (by decide) (by omega)
 po:=by
  intro q hq;simp only [Pt,List.mem_cons,List.not_mem_nil,or_false] at hq;rcases hq with rfl|rfl
  · exact RB_lit (by decide) (by decide) (by omega)
  · exact RB_lit (by decide) (by decide) (by omega)
 ex:=by decide
 lc:=by
  intro k;refine Nat.lt_of_le_of_lt (lcmD_take_le k) (small64 (by decide) (by omega))
 pn:=by
  intro v hv e he;have hv2:v<2:=hv;have:v=0∨v=1:=by omega
  rcases this with rfl|rfl
  · have he2:e≤2:=he;have:e=0∨e=1∨e=2:=by omega
    rcases this with rfl|rfl|rfl <;> exact small64 (by decide) (by omega)
  · have he2:e≤0:=he;have:e=0:=by omega
    subst this;exact small64 (by decide) (by omega)
 pd:=by
  intro v hv e he;have hv2:v<2:=hv;have:v=0∨v=1:=by omega
  rcases this with rfl|rfl
  · have he2:e≤2:=he;have:e=0∨e=1∨e=2:=by omega
    rcases this with rfl|rfl|rfl <;> exact small64 (by decide) (by omega)
  · have he2:e≤0:=he;have:e=0:=by omega
    subst this;exact small64 (by decide) (by omega)
 ze:=by
  intro t ht k hk;simp only [X2,List.mem_singleton] at ht;subst ht;have hk2:k≤2:=hk;have:k=0∨k=1∨k=2:=by omega
  rcases this with rfl|rfl|rfl <;> exact small64 (by decide) (by omega)
 de:=by
  intro k hk;have hk2:k≤2:=hk;have:k=0∨k=1∨k=2:=by omega
  rcases this with rfl|rfl|rfl <;> exact small64 (by decide) (by omega)
 su:=small64 (by decide) (by omega)
theorem deg_val:degP 2 T2=2:=by
 unfold degP;rw [rd2,if_pos ⟨rfl,by decide⟩];decide
end Aw
theorem lit_slI {w:World} {cs:Array Value} {xs:List Int} {n:Nat} (hn:cs.size=n) (h6:n≤1000000) (h:cs.toList=xs.map (Value.int .i64)):SlI (w.alloc (.cells cs 3)) (some ⟨w.heap.size,0,none⟩) n n xs:=by
 have:=(own_alloc w 0 3 cs n hn (Nat.zero_le _) h6).sl;rw [h] at this;exact this
theorem lit_terms {w:World} {rows:List (List Value)} {ts:List Tx} {n:Nat} (hw:∀ r∈rows,r.length=2) (hn:rows.length=n) (ht:ts.length=n) (hm:n≤1000) (h:∀ i,i<n→TmAt w (rows.getD i []) (ts.getD i tm0)) :
 TmSl (w.alloc (.cells rows.flatten.toArray 60)) (some ⟨w.heap.size,0,none⟩) n n ts:=by
 have hA:=Arr.new w 60 rows.flatten;have hO:=Arr.ownK (base:=0) hA hw hn (Nat.zero_le _) (by unfold maxLen; omega);exact ⟨rows,hO.slk (by omega),ht,fun i hi=>(h i hi).ext ((Ext.refl w).alloc _)⟩
theorem lit_strs {w:World} {cs:Array Value} {l:List (List UInt8)} {n:Nat} (hn:cs.size=n) (h6:n≤1000000) (hl:l.length=n) (h:∀ i,i<n→∃ s,cs.toList.getD i undef = .string s∧strL s=l.getD i []) :
 StrSl (w.alloc (.cells cs 9)) (some ⟨w.heap.size,0,none⟩) n n l:=⟨cs.toList,(own_alloc w 0 9 cs n hn (Nat.zero_le _) h6).sl,hl,h⟩
def awR (s:Nat):List (List Value):=[[.string ⟨#[49,47,50]⟩, .slice (some ⟨s,0,none⟩) 2 2],[.string ⟨#[49]⟩, .slice (some ⟨s+1,0,none⟩) 2 2],[.string ⟨#[45,49,47,50]⟩, .slice (some ⟨s+1+1,0,none⟩) 2 2]]
def awW3 (w:World):World:=(((w.alloc (.cells #[.int .i64 1, .int .i64 1] 3)).alloc (.cells #[.int .i64 1, .int .i64 0] 3)).alloc (.cells #[.int .i64 1, .int .i64 1] 3))
def awW (w:World):World:=(awW3 w).alloc (.cells #[.string ⟨#[49,47,50]⟩, .slice (some ⟨w.heap.size,0,none⟩) 2 2, .string ⟨#[49]⟩, .slice (some ⟨w.heap.size+1,0,none⟩) 2 2, .string ⟨#[45,49,47,50]⟩, .slice (some ⟨w.heap.size+1+1,0,none⟩) 2 2] 60)
theorem size_alloc (w:World) (o:Obj):(w.alloc o).heap.size=w.heap.size+1:=by simp
theorem awW_ext (w:World):Ext w (awW w):=((((Ext.refl w).alloc _).alloc _).alloc _).alloc _
theorem awM (w:World):TmSl (awW w) (some ⟨w.heap.size+1+1+1,0,none⟩) 3 3 Aw.M:=by
 have e1:=lit_slI (w:=w) (cs:=#[.int .i64 1, .int .i64 1]) (xs:=[1,1]) (n:=2) rfl (by omega) rfl;have e2:=lit_slI (w:=w.alloc (.cells #[.int .i64 1, .int .i64 1] 3)) (cs:=#[.int .i64 1, .int .i64 0]) (xs:=[1,0]) (n:=2) rfl (by omega) rfl;have e3:=lit_slI (w:=(w.alloc (.cells #[.int .i64 1, .int .i64 1] 3)).alloc (.cells #[.int .i64 1, .int .i64 0] 3)) (cs:=#[.int .i64 1, .int .i64 1]) (xs:=[1,1]) (n:=2) rfl (by omega) rfl;have f1:=(e1.alloc (.cells #[.int .i64 1, .int .i64 0] 3)).alloc (.cells #[.int .i64 1, .int .i64 1] 3);have f2:=e2.alloc (.cells #[.int .i64 1, .int .i64 1] 3)
 rw [size_alloc] at f2 e3;rw [size_alloc] at e3;have hs:(awW3 w).heap.size=w.heap.size+1+1+1:=by unfold awW3; rw [size_alloc,size_alloc,size_alloc]
 have h:=lit_terms (w:=awW3 w) (rows:=awR w.heap.size) (ts:=Aw.M) (n:=3) (by simp [awR]) rfl rfl (by omega) (fun i hi=>by
  have h3:i=0∨i=1∨i=2:=by omega
  rcases h3 with rfl|rfl|rfl
  · exact ⟨_,_,_,_,rfl,rfl,f1⟩
  · exact ⟨_,_,_,_,rfl,rfl,f2⟩
  · exact ⟨_,_,_,_,rfl,rfl,e3⟩)
 rw [hs] at h;exact h
theorem aw_Make {w:World} (hT:Tabs w):Calls Tryz.prog 42 #[.int .i64 2, .slice (some ⟨w.heap.size+1+1+1,0,none⟩) 3 3] (awW w) (RetP (awW w) 2 Aw.T1 0):=by
 refine (poly_Make (vars:=2) (hT.ext (awW_ext w)) (awM w) (by decide) (by omega) (fun _ _ _=>Aw.mk_sum)).mono ?_;intro e w' h;rcases h with ⟨h,_⟩|⟨_,_,h,_⟩|⟨_,_,_,h⟩
 · exact absurd ⟨by omega,by omega⟩ h
 · exact absurd Aw.mk_ok h
 · rw [Aw.mk_res] at h;exact h
theorem aw_Var {w:World} (hT:Tabs w):Calls Tryz.prog 55 #[.int .i64 2, .int .i64 0] w (RetP w 2 Aw.T1 0):=by
 refine (poly_Var (vars:=2) (i:=0) hT).mono ?_;intro e w' h;rcases h with ⟨_,_,_,_,h⟩|⟨h,_⟩
 · have h':RetA3 w (resQ 2 [(unitE 0,1)]) e w':=h;rw [Aw.var_res] at h';exact h'
 · exact absurd ⟨by omega,by omega,by omega,by omega⟩ h
theorem aw_Mul {w:World} {a:Option Addr} {n c:Nat} (hT:Tabs w) (h:TmSl w a n c Aw.T1):Calls Tryz.prog 16 #[.agg #[.int .i64 2, .slice a n c], .agg #[.int .i64 2, .slice a n c]] w (RetP w 2 Aw.T2 0):=by
 have h6:∀ t∈Aw.T1,t.1.length≤570:=by decide
 refine (poly_Mul (va:=2) (vb:=2) hT h h h6 h6 (fun la lb h1 h2 _=>by
  rw [Aw.rd1] at h1 h2;cases h1; cases h2
  exact Aw.mul_ok)).mono ?_
 intro e w' h;rw [Aw.rd1] at h;rcases h with ⟨la,lb,h1,h2,_,h⟩|⟨_,h,_⟩|⟨h,_⟩
 · cases h1; cases h2;rcases h with ⟨_,h⟩|⟨h,_⟩
   · rw [Aw.mul_res] at h;exact h
   · exact absurd h Aw.mul_deg
 · exact absurd rfl h
 · simp at h
theorem aw_Eval {w:World} {a b:Option Addr} {n c:Nat} (hT:Tabs w) (h:TmSl w a n c Aw.T2) (hb:StrSl w b 2 2 [Aw.s12,Aw.s7]):Calls Tryz.prog 18 #[.agg #[.int .i64 2, .slice a n c], .slice b 2 2] w (RetTxt w Aw.s14 0):=by
 refine (poly_Eval (va:=2) hT h hb (by decide) (by decide) (by omega) (fun l pt h1 h2 _=>by
  rw [Aw.rd2] at h1;rw [Aw.pt_rd] at h2;cases h1; cases h2
  exact ⟨Aw.ev_ok,Aw.ev_str⟩)).mono ?_
 intro e w' h;rw [Aw.rd2,Aw.pt_rd] at h;rcases h with ⟨l,pt,h1,h2,_,h⟩|⟨_,h,_⟩|⟨h,_⟩
 · cases h1; cases h2;rw [Aw.ev_val,Aw.txt_14] at h;exact h
 · exact absurd rfl h
 · simp at h
theorem aw_Equal {w:World} {a b:Option Addr} {n c m d:Nat} (hT:Tabs w) (hx:TmSl w a n c Aw.T1) (hy:TmSl w b m d Aw.T1):Calls Tryz.prog 56 #[.agg #[.int .i64 2, .slice a n c], .agg #[.int .i64 2, .slice b m d]] w fun e w'=>e = .returned (.bool true)∧Ext w w':=by
 refine (poly_Equal (v1:=2) (v2:=2) hT hx hy (by decide)).mono ?_;rintro e w' ⟨rfl,h⟩;refine ⟨?_,h⟩;rw [Aw.rd1];simp
theorem aw_Degree {w:World} {a:Option Addr} {n c:Nat} (hT:Tabs w) (h:TmSl w a n c Aw.T2):Calls Tryz.prog 57 #[.agg #[.int .i64 2, .slice a n c]] w fun e w'=>e = .returned (.int .i64 2)∧Ext w w':=by
 refine (poly_Degree (vars:=2) hT h (by decide)).mono ?_;rintro e w' ⟨rfl,h⟩;rw [Aw.deg_val];exact ⟨rfl,h⟩
theorem law_awake {w:World} (hT:Tabs w):Calls Tryz.prog 19 #[] w fun e w'=>e = .returned (.bool true)∧Ext w w':=by
 have hmk:=qh (aw_Make hT);have hE0:=awW_ext w;unfold awW awW3 at hmk hE0
 go_enter Tryz.func19,Tryz.ntmps19
 go_wp2_with fail
 refine hmk.out.mono ?_;rintro e w1 ⟨a1,n1,c1,rfl,hE1,hO1⟩;have hEw1:=hE0.trans hE1;have hpv:polyV 2 a1 n1 c1 = .agg #[.int .i64 2, .slice a1 n1 c1]:=rfl;rw [hpv];have hpl:(polyL 2 a1 n1 c1).toArray=#[.int .i64 2, .slice a1 n1 c1]:=rfl;have hY:=Arr.new w1 25 (polyL 0 none 0 0);have hL1:=hO1.sl;clear hE0 hE1 hmk hO1
 go_upto_region 2 with (refine wl_stArr (vs:=polyL 2 a1 n1 c1) rfl rfl rfl rfl rfl agg_Poly hY rfl (polyL_one _ _ _ _) ?_; intro w2 hB2 hg2)
 have hE2:Ext w1 w2:=((Ext.refl w1).alloc _).grownR hg2 (Nat.le_refl _);have hEw2:=hEw1.trans hE2;have hL2:=hL1.ext hE2;have p0:=hB2.c 0 rfl;have p1:=hB2.c 1 rfl;clear hY hg2 hpl hpv hB2 hL1 hE2 hEw1;generalize w1.heap.size=Q1 at *
 have hvr:=qh (aw_Var (hT.ext hEw2))
 go_wp2_with fail
 refine hvr.out.mono ?_;rintro e w3 ⟨a3,n3,c3,rfl,hE3,hO3⟩;have hpv:polyV 2 a3 n3 c3 = .agg #[.int .i64 2, .slice a3 n3 c3]:=rfl;rw [hpv];have hpl:(polyL 2 a3 n3 c3).toArray=#[.int .i64 2, .slice a3 n3 c3]:=rfl;have hY:=Arr.new w3 25 (polyL 0 none 0 0);have hM3:=hO3.sl;clear hvr hO3
 go_upto_region 3 with (refine wl_stArr (vs:=polyL 2 a3 n3 c3) rfl rfl rfl rfl rfl agg_Poly hY rfl (polyL_one _ _ _ _) ?_; intro w4 hB4 hg4)
 have hE4:Ext w3 w4:=((Ext.refl w3).alloc _).grownR hg4 (Nat.le_refl _);have hE24:=hE3.trans hE4;have hEw4:=hEw2.trans hE24;have hL4:=hL2.ext hE24;have hM4:=hM3.ext hE4;have p0:=hE24.cell p0;have p1:=hE24.cell p1;have q0:=hB4.c 0 rfl;have q1:=hB4.c 1 rfl;clear hY hg4 hpl hpv hB4 hL2 hM3 hE3 hE4 hE24 hEw2;generalize w3.heap.size=Q3 at *
 have hml:=qh (aw_Mul (hT.ext hEw4) hM4)
 go_wp2_with fail
 refine hml.out.mono ?_;rintro e w5 ⟨a5,n5,c5,rfl,hE5,hO5⟩;have hpv:polyV 2 a5 n5 c5 = .agg #[.int .i64 2, .slice a5 n5 c5]:=rfl;rw [hpv];have hpl:(polyL 2 a5 n5 c5).toArray=#[.int .i64 2, .slice a5 n5 c5]:=rfl;have hY:=Arr.new w5 25 (polyL 0 none 0 0);have hS5:=hO5.sl;clear hml hO5
 go_upto_region 4 with (refine wl_stArr (vs:=polyL 2 a5 n5 c5) rfl rfl rfl rfl rfl agg_Poly hY rfl (polyL_one _ _ _ _) ?_; intro w6 hB6 hg6)
 have hE6:Ext w5 w6:=((Ext.refl w5).alloc _).grownR hg6 (Nat.le_refl _);have hE46:=hE5.trans hE6;have hEw6:=hEw4.trans hE46;have hL6:=hL4.ext hE46;have hM6:=hM4.ext hE46;have hS6:=hS5.ext hE6;have p0:=hE46.cell p0;have p1:=hE46.cell p1;have q0:=hE46.cell q0;have q1:=hE46.cell q1;have r0:=hB6.c 0 rfl;have r1:=hB6.c 1 rfl;clear hY hg6 hpl hpv hB6 hL4 hM4 hS5 hE5 hE6 hE46 hEw4;generalize w5.heap.size=Q5 at *
 have hE6a:=(Ext.refl w6).alloc (.cells #[.string ⟨#[49,47,50]⟩, .string ⟨#[55]⟩] 9)
 have hst:StrSl (w6.alloc (.cells #[.string ⟨#[49,47,50]⟩, .string ⟨#[55]⟩] 9)) (some ⟨w6.heap.size,0,none⟩) 2 2 [Aw.s12,Aw.s7]:=lit_strs rfl (by omega) rfl (fun i hi=>by
  have h2:i=0∨i=1:=by omega
  rcases h2 with rfl|rfl
  · exact ⟨_,rfl,rfl⟩
  · exact ⟨_,rfl,rfl⟩)
 have hev:=qh (aw_Eval (hT.ext (hEw6.trans hE6a)) (hS6.ext hE6a) hst);clear hst
 go_wp2_with fail
 refine hev.out.mono ?_;rintro e w7 ⟨rfl,hE7⟩;have hE67:=hE6a.trans hE7;have hEw7:=hEw6.trans hE67;have p0:=hE67.cell p0;have p1:=hE67.cell p1;have q0:=hE67.cell q0;have q1:=hE67.cell q1;have r0:=hE67.cell r0;have r1:=hE67.cell r1;have heq:=qh (aw_Equal (hT.ext hEw7) (hL6.ext hE67) (hM6.ext hE67));have hS7:=hS6.ext hE67;have hstr:(Value.string ⟨Aw.s14.toArray⟩) = .string ⟨#[49,47,52]⟩:=rfl;rw [hstr];clear hev hE6a hE7 hL6 hM6 hS6 hE67 hEw6 hstr
 go_wp2_with fail
 refine heq.out.mono ?_;rintro e w8 ⟨rfl,hE8⟩;have r0:=hE8.cell r0;have r1:=hE8.cell r1;have hEw8:=hEw7.trans hE8;have hdg:=qh (aw_Degree (hT.ext hEw8) (hS7.ext hE8));clear heq hE8 hS7 hEw7
 go_wp2_with fail
 refine hdg.out.mono ?_;rintro e w9 ⟨rfl,hE9⟩;go_wp2;go_ret;exact ⟨rfl,hEw8.trans hE9⟩
end Go.Proofs.YtlpgonpfjbhmfaaGreatDoor
