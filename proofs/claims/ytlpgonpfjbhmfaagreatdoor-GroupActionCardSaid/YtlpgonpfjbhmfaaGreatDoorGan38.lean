/- Part Gan38. -/
import Derived.Test.YtlpgonpfjbhmfaaGreatDoorGan35
import Derived.Test.YtlpgonpfjbhmfaaGreatDoorGan37
import Derived.Test.YtlpgonpfjbhmfaaGreatDoorGan34
import Derived.Test.YtlpgonpfjbhmfaaGreatDoorGan3
import Derived.Test.YtlpgonpfjbhmfaaGreatDoorGan36
set_option maxRecDepth 100000
set_option maxHeartbeats 100000000
namespace Go.Proofs.YtlpgonpfjbhmfaaGreatDoor
open Go Go.RowKit
section
variable {n N d y:Nat} {a b:List Int} {l k:List Pl.Tm} {ts:List Tx}
theorem act_Lo (pv:Pv (n:Int) l) (hs:∀ t∈l,t.1.sum≤24) (hp:permB a=true) (ha:a.length=n) (hn:n≤6):Lo (actL n a l):=by
 intro u hu;obtain ⟨t,ht,rfl⟩:=act_mem hu;have h1:=mp_InV hp ha hn (pv.inv t ht);have h2:=mp_sum hp ha hn (pv.inv t ht);have h3:=hs t ht;exact ⟨h1.1,fun x hx=>⟨h1.2.1 x hx,by have:=(sum_nn h1.2.1).2 x hx; show x≤_; omega⟩⟩
theorem Bd.sumA (h:Bd (n:Int) N d y l) (hs:∀ t∈l,t.1.sum≤24) (hp:permB a=true) (ha:a.length=n) (hn:n≤6) (h1:N≤1000) (h2:d≤1900) (h3:y≤1900):SumOK (actL n a l):=by
 obtain ⟨D,d1,d2,d3⟩:=h.sb;refine sumOK_SB (b:=1920) (D:=D) (Y:=P2 y) (fun u hu => ?_) d1 (P2_lt d2 (by omega)) ?_ (by omega) (act_Lo h.pv hs hp ha hn) (by rw [act_len]; have:=h.len; omega)
 · obtain ⟨t,ht,rfl⟩:=act_mem hu;exact d3 t ht
 · rw [act_len];have e1:l.length≤P2 10:=Nat.le_trans h.len (Nat.le_trans h1 (by unfold P2; decide));refine Nat.lt_of_le_of_lt (Nat.mul_le_mul_right _ e1) ?_;rw [←P2_add];exact P2_slt (by omega)
theorem act_degL (h:rdP (n:Int) ts=some (cnP (actL n a l))) (pv:Pv (n:Int) l) (hp:permB a=true) (ha:a.length=n) (hn:n≤6) (hne:cnP (actL n a l)≠[]):l≠[]∧degL (cnP (actL n a l))≤degL l:=by
 obtain ⟨t,r,hc⟩:=List.exists_cons_of_ne_nil hne;have hm:t∈cnP (actL n a l):=by rw [hc]; simp
 obtain ⟨s,hs,e⟩:=act_cn_mem pv hp ha hn hm;have hcan:=rdP_canon h;rw [hc] at hcan ⊢;have h0:=(sum_nn (mp_InV hp ha hn (pv.inv s hs)).2.1).1;have h1:t.1.sum=s.1.sum:=by rw [e]; exact mp_sum hp ha hn (pv.inv s hs)
 refine ⟨(fun h=>by rw [h] at hs; cases hs), ?_⟩;rw [degL_head hcan (by rw [e]; show -1≤(mp n a s.1).sum; omega),h1];exact le_degL hs
end
structure GapS (n:Nat) (A B:List Int) (tp tq tu tv:List Tx) (lp lq:List Pl.Tm):Prop where
 u:actA n B (rdP (n:Int) tp)=((n:Int),tu,0)
 su:SumOK (actL n B lp)
 ru:rdP (n:Int) tu=some (cnP (actL n B lp))
 v:actA n A (rdP (n:Int) tu)=((n:Int),tv,0)
 sv:SumOK (actL n A (cnP (actL n B lp)))
 w:actA n (comp A B) (rdP (n:Int) tp)=((n:Int),tv,0)
 sw:SumOK (actL n (comp A B) lp)
 xu:∀ t∈tu,t.1.length≤570
 mul:∀ la lb,rdP (n:Int) tp=some la→rdP (n:Int) tq=some lb→(n:Int)=(n:Int)→MulOK la lb
 sm:smallP tu 5 8
structure GapM (n:Nat) (B:List Int) (tq tu tm ts tt:List Tx) (lm lq lu:List Pl.Tm):Prop where
 rm:rdP (n:Int) tm=some lm
 xm:∀ t∈tm,t.1.length≤570
 s:actA n B (rdP (n:Int) tm)=((n:Int),ts,0)
 ss:SumOK (actL n B lm)
 t:actA n B (rdP (n:Int) tq)=((n:Int),tt,0)
 st:SumOK (actL n B lq)
 xt:∀ t∈tt,t.1.length≤570
 r:mulA n n (rdP (n:Int) tu) (rdP (n:Int) tt)=((n:Int),ts,0)
 mo:∀ la lb,rdP (n:Int) tu=some la→rdP (n:Int) tt=some lb→(n:Int)=(n:Int)→MulOK la lb
section
variable {n:Nat} {A B:List Int} {tp tq tm:List Tx} {lp lq:List Pl.Tm} {v3:Int}
theorem gB5 {v:Int} {ts:List Tx} {l:List Pl.Tm} (h:rdP v ts=some l) (hs:smallP ts 5 8):Bd v 5 121 148 l:=Bd.of h hs (by omega) P2_27
theorem act_small (hp:rdP (n:Int) tp=some lp) (s1:smallP tp 5 8) (pB:permB B=true) (lB:B.length=n) {tu:List Tx} (ru:rdP (n:Int) tu=some (cnP (actL n B lp))):smallP tu 5 8:=by
 have b1:=gB5 hp s1;have hn:n≤6:=by have:=b1.pv.v0; omega
 refine ⟨by rw [←rdP_len ru]; exact (b1.act pB lB hn ru).len,fun t ht => ?_⟩;rw [←rdP_wrT ru] at ht;obtain ⟨m,hm,rfl⟩:=List.mem_map.1 ht;obtain ⟨s,hs,rfl⟩:=act_cn_mem b1.pv pB lB hn hm;obtain ⟨t0,ht0,hr0⟩:=rdP_mem hp hs;have h1:=readQ_eq (rdT_parts hr0).1;refine ⟨?_, ?_⟩
 · show (txt s.2).length≤8;rw [←h1];exact (s1.2 t0 ht0).1
 · show (List.take _ _).length≤12;rw [List.length_take];have:(n:Int).toNat=n:=rfl;omega
theorem gapS (hp:rdP (n:Int) tp=some lp) (hq:rdP (n:Int) tq=some lq) (s1:smallP tp 5 8) (s2:smallP tq 4 8) (pA:permB A=true) (pB:permB B=true) (lA:A.length=n) (lB:B.length=n):∃ tu tv,GapS n A B tp tq tu tv lp lq:=by
 have b1:=gB5 hp s1;have b2:=Bd8 hq s2;have hn:n≤6:=by have:=b1.pv.v0; omega
 have pC:=comp_perm pA pB (lA.trans lB.symm);have lC:(comp A B).length=n:=by rw [comp_len,lB]
 obtain ⟨tu,hu,ru⟩:=act_ok hp pB lB;have bu:=b1.act pB lB hn ru;obtain ⟨tv,hv,rv⟩:=act_ok ru pA lA;have s24:=rdP_sum24 hp;refine ⟨tu,tv,by rw [hp]; exact hu,b1.sumA s24 pB lB hn (by omega) (by omega) (by omega),ru,by rw [ru]; exact hv,bu.sumA (rdP_sum24 ru) pA lA hn (by omega) (by omega) (by omega), ?_,b1.sumA s24 pC lC hn (by omega) (by omega) (by omega),bu.text ru (by omega) (by omega), ?_, ?_⟩
 · rw [hp];show resQ (n:Int) (actL n (comp A B) lp)=_;rw [←hv];refine resQ_congr fun e => ?_;rw [←act_act pA pB lA lB hn b1.pv.inv];exact coef_act_ext (fun e=>(act_cn b1.pv pB lB hn e).symm) e
 · intro la lb h1 h2 _;rw [hp] at h1; cases h1;rw [hq] at h2; cases h2;exact b1.mul b2 (k:=5) (P2_num 5 (by decide) rfl) (by omega) (by omega) (by omega) (by omega)
 · exact act_small hp s1 pB lB ru
theorem gapM (hp:rdP (n:Int) tp=some lp) (hq:rdP (n:Int) tq=some lq) (s1:smallP tp 5 8) (s2:smallP tq 4 8) (pB:permB B=true) (lB:B.length=n) {tu:List Tx} (ru:rdP (n:Int) tu=some (cnP (actL n B lp))) (h3:mulA n n (rdP (n:Int) tp) (rdP (n:Int) tq)=(v3,tm,0)):v3=(n:Int)∧∃ ts tt,GapM n B tq tu tm ts tt (cnP (Pl.prodT lp lq)) lq (cnP (actL n B lp)):=by
 have b1:=gB5 hp s1;have b2:=Bd8 hq s2;have hn:n≤6:=by have:=b1.pv.v0; omega
 obtain ⟨la,lb,h4,h5,_,h6,rm⟩:=mul_fact h3;rw [hp] at h4; cases h4;rw [hq] at h5; cases h5;obtain ⟨la,lb,h4,h5,_,hdeg,_⟩:=mulA_ok (by rw [h3]);rw [hp] at h4; cases h4;rw [hq] at h5; cases h5;subst h6;have bm:=b1.prod b2 rm (k:=5) (P2_num 5 (by decide) rfl);have bu:=b1.act pB lB hn ru;obtain ⟨ts,hs,rs⟩:=act_ok rm pB lB;obtain ⟨tt,ht,rt⟩:=act_ok hq pB lB;have bt:=b2.act pB lB hn rt
 refine ⟨rfl,ts,tt,rm,bm.text rm (by omega) (by omega),by rw [rm]; exact hs,bm.sumA (rdP_sum24 rm) pB lB hn (by omega) (by omega) (by omega),by rw [hq]; exact ht,b2.sumA (rdP_sum24 hq) pB lB hn (by omega) (by omega) (by omega),bt.text rt (by omega) (by omega), ?_, ?_⟩
 · rw [ru,rt];unfold mulA;simp only [if_pos];have hn0:¬ (cnP (actL n B lp)≠[]∧cnP (actL n B lq)≠[]∧24<degL (cnP (actL n B lp))+degL (cnP (actL n B lq))):=by
    rintro ⟨h1,h2,h3⟩;have g1:=act_degL ru b1.pv pB lB hn h1;have g2:=act_degL rt b2.pv pB lB hn h2;exact hdeg ⟨g1.1,g2.1,by omega⟩
   rw [if_neg hn0,←hs];show resQ (n:Int) _=resQ (n:Int) (actL n B (cnP (Pl.prodT lp lq)));refine resQ_congr fun e => ?_;rw [Pl.coef_prod_ext (act_cn b1.pv pB lB hn) (act_cn b2.pv pB lB hn),←act_prod pB lB hn b1.pv.inv b2.pv.inv];exact coef_act_ext (fun e=>(b1.pv.cprod b2.pv e).symm) e
 · intro la lb h1 h2 _;rw [ru] at h1; cases h1;rw [rt] at h2; cases h2;exact bu.mul bt (k:=5) (P2_num 5 (by decide) rfl) (by omega) (by omega) (by omega) (by omega)
end
def D10 (k:Nat):Nat:=10^k
theorem D10_le {a b:Nat} (h:a≤b):10^a≤D10 b:=Nat.pow_le_pow_right (by omega) h
structure Q6 (q:Rat):Prop where
 n:q.num.natAbs<10^6
 d:q.den<10^4
 m:q.den=1∨q.num.natAbs<10^4
theorem Q6.of {q:Rat} (h:(txt q).length≤6):Q6 q:=by
 have h1:=dec_bnd q.num.natAbs;have h2:(Lib.decDigits q.num.natAbs).length≤(Lib.itoa q.num).length:=by
  unfold Lib.itoa;split
  · simp
  · have e:q.num.toNat=q.num.natAbs:=by omega
    simp [e]
 have h0:0<(Lib.decDigits q.num.natAbs).length:=List.length_pos_iff.2 (W.dec_ne _);have up:∀ {x a b:Nat},x<10^a→a≤b→x<10^b:=fun hx hab=>Nat.lt_of_lt_of_le hx (Nat.pow_le_pow_right (by omega) hab);unfold txt at h;rw [List.length_append] at h;by_cases hd:q.den=1
 · exact ⟨up h1 (by omega),by rw [hd]; decide,Or.inl hd⟩
 · have h3:=dec_bnd q.den;have h4:0<(Lib.decDigits q.den).length:=List.length_pos_iff.2 (W.dec_ne _);rw [if_neg hd,List.length_cons] at h;exact ⟨up h1 (by omega),up h3 (by omega),Or.inr (up h1 (by omega))⟩
def sg (g:Nat→Nat):Nat→Nat
 | 0=>0
 | k+1=>sg g k+g k
theorem pwz_b {x:Rat} (h:Q6 x) {g e:Nat} (he:e≤g):(Pl.pwz x g e).natAbs≤10^(4*g+2*e):=by
 unfold Pl.pwz;rw [Int.natAbs_mul,Int.natAbs_pow,Int.natAbs_pow,Int.natAbs_natCast];rcases h.m with hd|hn
 · rw [hd,Nat.one_pow,Nat.mul_one];refine Nat.le_trans (Nat.pow_le_pow_left (Nat.le_of_lt h.n) e) ?_;rw [←Nat.pow_mul];exact Nat.pow_le_pow_right (by omega) (by omega)
 · refine Nat.le_trans (Nat.mul_le_mul (Nat.pow_le_pow_left (Nat.le_of_lt hn) e) (Nat.pow_le_pow_left (Nat.le_of_lt h.d) (g-e))) ?_;rw [←Nat.pow_mul,←Nat.pow_mul,←Nat.pow_add];exact Nat.pow_le_pow_right (by omega) (by omega)
section
variable {d:Nat} {g:Nat→Nat} {pt:List Rat} {t:Pl.Tm} {l:List Pl.Tm}
theorem zev_b (hx:∀ v,v<pt.length→Q6 (pt.getD v 0)):∀ k,k≤pt.length→(∀ v,v<k→(t.1.getD v 0).toNat≤g v)→(Pl.zev d g pt t k).natAbs≤(Pl.zsc t.2 d).natAbs*10^(4*sg g k+2*sg (fun v=>(t.1.getD v 0).toNat) k)
 | 0,_,_=>by
  show (Pl.zsc t.2 d).natAbs≤(Pl.zsc t.2 d).natAbs*1;omega
 | k+1,hk,he=>by
  unfold Pl.zev;rw [Int.natAbs_mul];refine Nat.le_trans (Nat.mul_le_mul (zev_b hx k (by omega) fun v hv=>he v (by omega)) (pwz_b (hx k (by omega)) (he k (by omega)))) ?_;rw [Nat.mul_assoc,←Nat.pow_add];refine Nat.le_of_eq (congrArg _ (congrArg _ ?_));show _=4*(sg g k+g k)+2*(sg (fun v=>(t.1.getD v 0).toNat) k+(t.1.getD k 0).toNat);omega
theorem dev_b (hx:∀ v,v<pt.length→Q6 (pt.getD v 0)):∀ k,k≤pt.length→Pl.dev d g pt k≤d*10^(4*sg g k)
 | 0,_=>by
  show d≤d*1;omega
 | k+1,hk=>by
  unfold Pl.dev;refine Nat.le_trans (Nat.mul_le_mul (dev_b hx k (by omega)) (Nat.pow_le_pow_left (Nat.le_of_lt (hx k (by omega)).d) (g k))) ?_;rw [Nat.mul_assoc,←Nat.pow_mul,←Nat.pow_add];refine Nat.le_of_eq (congrArg _ (congrArg _ ?_));show _=4*(sg g k+g k);omega
theorem sg_sum {e:List Int} (h:∀ x∈e,0≤x):∀ k,k≤e.length→((sg (fun v=>(e.getD v 0).toNat) k:Nat):Int)=(e.take k).sum
 | 0,_=>by simp [sg]
 | k+1,hk=>by
  have h1:=sg_sum h k (by omega);have h2:=h e[k] (List.getElem_mem _);have h3:e.getD k 0=e[k]:=by simp [List.getD_eq_getElem?_getD,(by omega:k<e.length)]
  rw [List.take_succ_eq_append_getElem (by omega),List.sum_append,←h1];show (((sg (fun v=>(e.getD v 0).toNat) k+(e.getD k 0).toNat:Nat)):Int)=_;rw [h3];simp;omega
theorem sg_le {e:List Int} (h:∀ x∈e,0≤x) {k:Nat} (hk:k≤e.length) (hs:e.sum≤24):sg (fun v=>(e.getD v 0).toNat) k≤24:=by
 have h1:=sg_sum h k hk;have h2:e.sum=(e.take k).sum+(e.drop k).sum:=by rw [←List.sum_append,List.take_append_drop]
 have h3:=(sum_nn (l:=e.drop k) fun x hx=>h x (List.mem_of_mem_drop hx)).1;omega
theorem mem_le_sum:∀ {l:List Nat} {x:Nat},x∈l→x≤l.sum
 | y :: r,x,h=>by
  rw [List.sum_cons];rcases List.mem_cons.1 h with rfl|h
  · omega
  · have:=mem_le_sum h;omega
theorem grt_sum (v:Nat):Pl.grt l v≤(l.map fun t=>(t.1.getD v 0).toNat).sum :=
 grt_le l 0 (Nat.zero_le _) fun t ht=>mem_le_sum (List.mem_map.2 ⟨t,ht,rfl⟩)
theorem sum_two (A B:Pl.Tm→Nat):∀ l:List Pl.Tm,(l.map A).sum+(l.map B).sum=(l.map fun t=>A t+B t).sum
 | []=>rfl
 | t :: r=>by
  have:=sum_two A B r;simp only [List.map_cons,List.sum_cons];omega
theorem sg_grt:∀ k,sg (Pl.grt l) k≤(l.map fun t=>sg (fun v=>(t.1.getD v 0).toNat) k).sum
 | 0=>Nat.zero_le _
 | k+1=>by
  have h1:=sg_grt k;have h2:=grt_sum (l:=l) k;have h3:=sum_two (fun t=>sg (fun v=>(t.1.getD v 0).toNat) k) (fun t=>(t.1.getD k 0).toNat) l;show sg (Pl.grt l) k+Pl.grt l k≤(l.map fun t=>sg (fun v=>(t.1.getD v 0).toNat) k+(t.1.getD k 0).toNat).sum;omega
theorem sum_le_mul {B:Nat} (A:Pl.Tm→Nat):∀ {l:List Pl.Tm},(∀ t∈l,A t≤B)→(l.map A).sum≤l.length*B
 | [],_=>by simp
 | t :: r,h=>by
  have h1:=sum_le_mul A (l:=r) fun s hs=>h s (by simp [hs]);have h2:=h t (by simp);rw [List.map_cons,List.sum_cons,List.length_cons,Nat.succ_mul];omega
theorem zsum_b {B:Nat} (f:Pl.Tm→Int):∀ (l:List Pl.Tm),(∀ t∈l,(f t).natAbs≤B)→(l.foldr (fun t a=>f t+a) 0).natAbs≤l.length*B
 | [],_=>by simp
 | t :: r,h=>by
  have h1:=zsum_b f r fun s hs=>h s (by simp [hs]);have h2:=h t (by simp);rw [List.foldr_cons,List.length_cons,Nat.succ_mul];omega
end
theorem ev_small {va:Int} {ts:List Tx} {l:List Pl.Tm} {pt:List Rat} (h:rdP va ts=some l) (hs:smallP ts 5 8) (hx:∀ q∈pt,Q6 q) (hl:pt.length≤6):EvB l pt∧StrOK (Pl.evq pt l):=by
 have hlen:=rdP_len h;have h5:l.length≤5:=by rw [hlen]; exact hs.1
 have hrb:=rdP_RB h (k:=8) fun t ht=>(hs.2 t ht).1;have hex:=rdP_exps h
 have hx':∀ v,v<pt.length→Q6 (pt.getD v 0):=fun v hv=>by
  rw [List.getD_eq_getElem?_getD,List.getElem?_eq_getElem hv];exact hx _ (List.getElem_mem _)
 have hg6:∀ t∈l,∀ k,k≤pt.length→sg (fun v=>(t.1.getD v 0).toNat) k≤24:=fun t ht k hk =>
  sg_le (fun x hx=>((hex t ht).2 x hx).1) (by rw [(hex t ht).1]; omega) (rdP_sum24 h t ht)
 have hG:∀ k,k≤pt.length→sg (Pl.grt l) k≤120:=fun k hk=>by
  have h1:=sg_grt (l:=l) k;have h2:=sum_le_mul (fun t=>sg (fun v=>(t.1.getD v 0).toNat) k) (l:=l) fun t ht=>hg6 t ht k hk;have h3:l.length*24≤5*24:=Nat.mul_le_mul_right _ h5;omega
 have hcf:∀ t∈l,t.2.num.natAbs<10^8∧t.2.den<P2 27:=fun t ht=>by
  obtain ⟨m,hm,hr⟩:=rdP_mem h ht;have h1:=readQ_eq (rdT_parts hr).1;have h2:=txt_dec t.2;have h3:(txt t.2).length≤8:=by rw [←h1]; exact (hs.2 m hm).1
  have h4:10^(txt t.2).length≤10^8:=Nat.pow_le_pow_right (by omega) h3;exact ⟨by omega,Nat.lt_of_lt_of_le (Nat.lt_of_lt_of_le h2.2 h4) P2_27⟩
 obtain ⟨L,hL⟩:∃ L,lcmD (l.map (·.2))=L:=⟨_,rfl⟩
 have hLb:∀ k,lcmD ((l.map (·.2)).take k)<P2 136:=fun k=>by
  have h1:=lcmD_bnd (l:=(l.map (·.2)).take k) (b:=27) fun q hq=>by
   obtain ⟨t,ht,rfl⟩:=List.mem_map.1 (List.mem_of_mem_take hq);exact (hcf t ht).2
  refine P2_lt h1 ?_;have:((l.map (·.2)).take k).length≤5:=by rw [List.length_take,List.length_map]; omega
  omega
 have hL1:L<P2 136:=by
  have:=hLb (l.map (·.2)).length;rw [List.take_length,hL] at this;exact this
 have hze:∀ t∈l,∀ k,k≤pt.length→(Pl.zev L (Pl.grt l) pt t k).natAbs≤10^8*P2 136*D10 528:=fun t ht k hk=>by
  refine Nat.le_trans (zev_b hx' k hk fun v _=>Pl.le_grt v ht) (Nat.mul_le_mul ?_ (D10_le ?_))
  · unfold Pl.zsc;rw [Int.natAbs_mul];exact Nat.mul_le_mul (Nat.le_of_lt (hcf t ht).1) (Nat.le_trans (Nat.div_le_self _ _) (Nat.le_of_lt hL1))
  · have h1:=hG k hk;have h2:=hg6 t ht k hk;omega
 have hzs:(Pl.zsum (fun t=>Pl.zev L (Pl.grt l) pt t pt.length) l).natAbs≤5*(10^8*P2 136*D10 528):=by
  unfold Pl.zsum;rw [Pl.zsum_foldl,Int.zero_add];exact Nat.le_trans (zsum_b _ l fun t ht=>hze t ht _ (Nat.le_refl _)) (Nat.mul_le_mul_right _ h5)
 have hde:∀ k,k≤pt.length→Pl.dev L (Pl.grt l) pt k≤P2 136*D10 480:=fun k hk =>
  Nat.le_trans (dev_b hx' k hk) (Nat.mul_le_mul (Nat.le_of_lt hL1) (D10_le (by have:=hG k hk; omega)))
 have n1:5*(10^8*P2 136*D10 528)<P2 1920:=by unfold P2 D10; decide +kernel
 have n2:P2 136*D10 480<P2 1920:=by unfold P2 D10; decide +kernel
 have gr:∀ v,Pl.grt l v≤24:=fun v=>grt_le l 0 (Nat.zero_le _) fun t ht=>by
  have h1:=(exp_getD (v:=v) (hex t ht).2).1;have h2:=rdP_sum24 h t ht;have h3:=sum_nn fun x hx=>((hex t ht).2 x hx).1;rcases Nat.lt_or_ge v t.1.length with hv|hv
  · have h4:=h3.2 _ (List.getElem_mem hv);rw [List.getD_eq_getElem?_getD,List.getElem?_eq_getElem hv,Option.getD_some];omega
  · rw [List.getD_eq_getElem?_getD,List.getElem?_eq_none hv];simp
 have pw:∀ x e,x<10^6→e≤24→x^e<P2 1200:=fun x e hx he=>by
  refine Nat.lt_of_le_of_lt (Nat.pow_le_pow_left (Nat.le_of_lt hx) e) ?_;rw [←Nat.pow_mul];refine Nat.lt_of_le_of_lt (m:=10^144) (Nat.pow_le_pow_right (by omega) (by omega)) ?_;unfold P2;decide +kernel
 have q24:∀ q∈pt,Pl.RB 24 q:=fun q hq=>by
  have e1:10^6≤P2 24:=by unfold P2; decide
  have h1:=(hx q hq).n;have h2:=(hx q hq).d;exact ⟨by omega,by omega⟩
 have hd:∀ t∈l,t.2.den∣L:=fun t ht=>by
  rw [←hL];exact lcmD_dvd (List.mem_map.2 ⟨t,ht,rfl⟩)
 have hL0:L≠0:=by rw [←hL]; exact Nat.ne_of_gt (lcmD_pos _)
 refine ⟨⟨fun t ht=>(hrb t ht).mono (by omega),fun q hq=>(q24 q hq).mono (by omega),fun t ht=>(hex t ht).2,fun k=>P2_lt (hLb k) (by omega),fun v hv e he=>pw _ _ (hx' v hv).n (Nat.le_trans he (gr v)),fun v hv e he=>pw _ _ (by have:=(hx' v hv).d; omega) (Nat.le_trans he (gr v)), ?_, ?_, ?_⟩, ?_⟩
 · intro t ht k hk;rw [hL];have:=hze t ht k hk;exact P2_lt (a:=1920) (by omega) (by omega)
 · intro k hk;rw [hL];have:=hde k hk;exact P2_lt (a:=1920) (by omega) (by omega)
 · rw [hL];exact P2_lt (a:=1920) (by omega) (by omega)
 · have he:=Pl.ev_done (pt:=pt) hL0 hd;have hn0:=Pl.dev_ne (g:=Pl.grt l) (pt:=pt) hL0 pt.length;have hm:=Pl.mkRat_le (n:=Pl.zsum (fun t=>Pl.zev L (Pl.grt l) pt t pt.length) l) hn0;rw [he] at hm;have:=hde _ (Nat.le_refl pt.length);exact strOK_big (by omega) (by omega)
noncomputable def atC (us:List (List UInt8)) (i:Nat):List UInt8:=if i<us.length∧(readQ (us.getD i [])).isSome=true then us.getD i [] else [48]
noncomputable def atL (us:List (List UInt8)) (n:Nat):List (List UInt8):=(List.range n).map (atC us)
noncomputable def mvS (us:List (List UInt8)) (B:List Int) (n:Nat):Nat→List (List UInt8)
 | 0=>List.replicate n []
 | k+1=>(mvS us B n k).set (B.getD k 0).toNat (atC us k)
def strV (l:List UInt8):Value := .string ⟨l.toArray⟩
theorem mvS_len (us:List (List UInt8)) (B:List Int) (n:Nat):∀ k,(mvS us B n k).length=n
 | 0=>by simp [mvS]
 | k+1=>by simp [mvS,mvS_len us B n k]
theorem getD_setS {l:List (List UInt8)} {i j:Nat} {v:List UInt8} (hi:i<l.length):(l.set i v).getD j []=if i=j then v else l.getD j []:=by
 simp only [List.getD_eq_getElem?_getD,List.getElem?_set];by_cases h:i=j
 · subst h;simp [hi]
 · simp [h]
theorem mvS_at {us:List (List UInt8)} {B:List Int} {n:Nat} (hp:permB B=true) (hl:B.length=n):∀ k,k≤n→∀ i,i<k→(mvS us B n k).getD (B.getD i 0).toNat []=atC us i
 | 0,_,i,hi=>by omega
 | k+1,hk,i,hi=>by
  have h0:=perm_at hp (i:=k) (by omega);have h1:=perm_at hp (i:=i) (by omega);show ((mvS us B n k).set (B.getD k 0).toNat (atC us k)).getD (B.getD i 0).toNat []=_;rw [getD_setS (by rw [mvS_len]; omega)];by_cases hik:i=k
  · subst hik;rw [if_pos rfl]
  · rw [if_neg (fun e=>hik (perm_inj hp (by omega) (by omega) (by omega)))];exact mvS_at hp hl k (by omega) i (by omega)
theorem atL_at {us:List (List UInt8)} {n i:Nat} (h:i<n):(atL us n).getD i []=atC us i:=by
 simp [atL,List.getD_eq_getElem?_getD,h]
theorem atL_len (us:List (List UInt8)) (n:Nat):(atL us n).length=n:=by simp [atL]
noncomputable def ptL (us:List (List UInt8)) (n:Nat):List Rat:=(atL us n).map fun t=>(readQ t).getD 0
noncomputable def pmL (us:List (List UInt8)) (B:List Int) (n:Nat):List Rat:=(mvS us B n n).map fun t=>(readQ t).getD 0
theorem atC_ok (us:List (List UInt8)) (i:Nat):(readQ (atC us i)).isSome=true:=by
 unfold atC;split
 · rename_i h;exact h.2
 · have h:readQ [48]=some 0:=by decide
   rw [h];rfl
theorem atC_len {us:List (List UInt8)} (h:us.all (fun x=>decide (x.length≤6))=true) (i:Nat):(atC us i).length≤6:=by
 unfold atC;split
 · rename_i hi;rw [List.all_eq_true] at h;have:=h (us.getD i []) (by rw [List.getD_eq_getElem?_getD,List.getElem?_eq_getElem hi.1]; exact List.getElem_mem _);simpa using this
 · simp
theorem mvS_is {us:List (List UInt8)} {B:List Int} {n:Nat} (hp:permB B=true) (hl:B.length=n) {j:Nat} (hj:j<n):∃ i,i<n∧B.getD i 0=(j:Int)∧(mvS us B n n).getD j []=atC us i:=by
 obtain ⟨i,hi,e⟩:=perm_hit hp (j:=j) (by omega);have h:=mvS_at (us:=us) hp hl n (Nat.le_refl _) i (by omega);rw [e] at h;exact ⟨i,by omega,e,h⟩
section
variable {us:List (List UInt8)} {B:List Int} {n:Nat}
theorem mvS_rd (hp:permB B=true) (hl:B.length=n):rdAll (mvS us B n n)=some (pmL us B n):=by
 unfold rdAll;rw [if_pos fun i hi => ?_]
 · rfl
 · rw [mvS_len] at hi;obtain ⟨k,_,_,e⟩:=mvS_is (us:=us) hp hl hi;rw [e];exact atC_ok us k
theorem map_getD {l:List (List UInt8)} {i:Nat} (h:i<l.length):(l.map fun t=>(readQ t).getD 0).getD i 0=(readQ (l.getD i [])).getD 0:=by
 simp [List.getD_eq_getElem?_getD,h]
theorem pm_at (hp:permB B=true) (hl:B.length=n):∀ i,i<n→(pmL us B n).getD (B.getD i 0).toNat 0=(ptL us n).getD i 0:=fun i hi=>by
 have h0:=perm_at hp (i:=i) (by omega);unfold pmL ptL;rw [map_getD (by rw [mvS_len]; omega),map_getD (by rw [atL_len]; exact hi),mvS_at hp hl n (Nat.le_refl _) i hi,atL_at hi]
theorem atC_Q6 (h:us.all (fun x=>decide (x.length≤6))=true) (i:Nat):Q6 ((readQ (atC us i)).getD 0):=by
 cases hq:readQ (atC us i) with
 | none =>
  have:=atC_ok us i;rw [hq] at this;cases this
 | some q =>
  have h1:=readQ_eq hq;have h2:=atC_len h i;rw [h1] at h2;exact Q6.of h2
theorem pm_Q6 (hp:permB B=true) (hl:B.length=n) (h:us.all (fun x=>decide (x.length≤6))=true):∀ q∈pmL us B n,Q6 q:=by
 intro q hq;obtain ⟨t,ht,rfl⟩:=List.mem_map.1 hq;obtain ⟨j,hj,rfl⟩:=List.getElem_of_mem ht;rw [mvS_len] at hj;obtain ⟨i,_,_,e⟩:=mvS_is (us:=us) hp hl hj;have:(mvS us B n n).getD j []=(mvS us B n n)[j]:=by simp [List.getD_eq_getElem?_getD,mvS_len,hj]
 rw [←this,e];exact atC_Q6 h i
theorem mvS_570 (hp:permB B=true) (hl:B.length=n) (h:us.all (fun x=>decide (x.length≤6))=true):∀ t∈mvS us B n n,t.length≤570:=by
 intro t ht;obtain ⟨j,hj,rfl⟩:=List.getElem_of_mem ht;rw [mvS_len] at hj;obtain ⟨i,_,_,e⟩:=mvS_is (us:=us) hp hl hj;have h1:(mvS us B n n).getD j []=(mvS us B n n)[j]:=by simp [List.getD_eq_getElem?_getD,mvS_len,hj]
 have:=atC_len h i;rw [←h1,e];omega
theorem gap_ev {lp:List Pl.Tm} (pv:Pv (n:Int) lp) (hp:permB B=true) (hl:B.length=n) (hn:n≤6):Pl.evq (pmL us B n) (cnP (actL n B lp))=Pl.evq (pmL us (idn n) n) lp:=by
 rw [evq_ext (act_cn pv hp hl hn)];refine evq_act hp hl hn pv.inv (by unfold pmL; rw [List.length_map,mvS_len]) (by unfold pmL; rw [List.length_map,mvS_len]) fun i hi => ?_;have h:=pm_at (us:=us) (idn_perm hn) (idn_len n) i hi;rw [idn_getD hi] at h;rw [pm_at hp hl i hi,←h];rfl
end
theorem strV_strL (s:ByteArray):strV (strL s) = .string s:=by
 unfold strV strL;cases s;simp
theorem info_str:Elem1 Tryz.prog 9 (.string ⟨#[]⟩) 16:=by unfold Elem1; kernel_rfl
theorem strSl_own {w:World} {base:Nat} {a:Option Addr} {n c:Nat} {l:List (List UInt8)} (h:Own w base 9 a n c (l.map strV)) (hl:l.length=n):StrSl w a n c l:=by
 refine ⟨l.map strV,h.sl,hl,fun i hi=>⟨⟨(l.getD i []).toArray⟩, ?_,strL_mk _⟩⟩;simp [List.getD_eq_getElem?_getD,hl,hi,strV]
theorem poly_EvalV {va:Int} {a b:Option Addr} {n c m d:Nat} {ts:List Tx} {xs:List (List UInt8)} {l:List Pl.Tm} {pt:List Rat} {w:World} (h1:rdP va ts=some l) (h2:rdAll xs=some pt) (h3:(m:Int)=va) (h4:EvB l pt∧StrOK (Pl.evq pt l)) (hT:Tabs w) (ha:TmSl w a n c ts) (hb:StrSl w b m d xs) (sa:∀ t∈ts,t.1.length≤570) (sb:∀ t∈xs,t.length≤570) (hm:m≤1000000) :
 Calls Tryz.prog 18 #[.agg #[.int .i64 va, .slice a n c], .slice b m d] w fun e w'=>e = .returned (.tuple #[.string ⟨(txt (Pl.evq pt l)).toArray⟩, .int .i64 0])∧Ext w w':=by
 refine (poly_Eval hT ha hb sa sb hm (fun l' pt' e1 e2 _ => ?_)).mono fun e w' h => ?_
 · rw [h1] at e1; cases e1;rw [h2] at e2; cases e2;exact h4
 · rw [h1,h2] at h;rcases h with ⟨l',pt',e1,e2,_,h⟩|⟨_,h,_⟩|⟨h,_⟩
   · cases e1; cases e2;exact h
   · exact absurd h3 h
   · cases h
theorem Compose_ok {a b:Option Addr} {n c d:Nat} {xs ys:List Int} {w:World} (hx:SlI w a n c xs) (hy:SlI w b n d ys) (p1:permB xs=true) (p2:permB ys=true) :
 Calls Tryz.prog 13 #[.slice a n c, .slice b n d] w (fun e w'=>∃ a' c',e = .returned (.tuple #[.slice a' n c', .int .i64 0])∧Ext w w'∧SlI w' a' n c' (comp xs ys)):=by
 refine (group_Compose hx hy).mono ?_;have hl:xs.length=ys.length:=hx.len.trans hy.len.symm;have hs:composeS xs ys=(comp xs ys,0):=by unfold composeS; rw [if_pos ⟨p1,p2⟩,if_pos hl]
 rw [hs];rintro e w1 ⟨a1,n1,c1,rfl,hE,hO⟩;have hn:n1=n:=by have:=hO.sl.len; rw [comp_len,hy.len] at this; exact this.symm
 subst hn;exact ⟨a1,c1,rfl,hE,hO.sl⟩
theorem permutation_ok {a:Option Addr} {n c m:Nat} {xs:List Int} {w:World} (hx:SlI w a n c xs) (hm:m≤6) :
 Calls Tryz.prog 12 #[.slice a n c, .int .i64 m] w (fun e w'=>∃ a' c' p,e = .returned (.slice a' m c')∧Ext w w'∧SlI w' a' m c' p∧permB p=true∧p.length=m):=by
 refine (law_permutation hx (by omega)).mono ?_;rintro e w1 ⟨a1,n1,c1,rfl,hE,hO⟩;have hn:n1=m:=by have:=hO.sl.len; rw [perml_len] at this; exact this.symm
 subst hn;exact ⟨a1,c1,_,rfl,hE,hO.sl,perml_perm xs hm,perml_len xs _⟩
def RetSE (w:World) (ps:List (List Int)) (er:Int) (e:Ending) (w':World):Prop :=
 ∃ a n c cells,e = .returned (.tuple #[.slice a n c, .int .i64 er])∧Ext w w'∧n=ps.length∧Own w' w.heap.size 22 a n c cells∧QEl w' w.heap.size cells ps
theorem slL_of {w:World} {base:Nat} {a:Option Addr} {n c:Nat} {cells:List Value} {ps:List (List Int)} (hn:n=ps.length) (hO:Own w base 22 a n c cells) (hQ:QEl w base cells ps):SlL w a n c ps:=by
 refine ⟨hn.symm,cells,hO.sl,fun i hi => ?_⟩;obtain ⟨a',n',c',h1,h2⟩:=hQ i (by omega);exact ⟨a',n',c',h1,h2.sl⟩
theorem group_Generate_ok {n:Nat} {ag:Option Addr} {ng cg:Nat} {gs:List (List Int)} {w:World} (hg:SlL w ag ng cg gs) (hn:n≤6) (hp:PermsN gs n) (h16:ng≤16)
 (h12:∀ L:List (List Int),L.Nodup→(∀ p,p∈L↔Reach gs n p)→L.length≤12) :
 Calls Tryz.prog 30 #[.int .i64 n, .slice ag ng cg] w (fun e w'=>∃ ps,RetSE w ps 0 e w'∧ps.Nodup∧(∀ p,p∈ps↔Reach gs n p)∧ordOn ps 0 ps.length):=by
 have HG:=qh hg.len;have HP:=qh hp;have H12:=qh h12;clear hp h12
 go_enter Tryz.func30,Tryz.ntmps30
 go_wp2
 go_loopw [21] (fun i wr=>∃ k:Nat,k≤ng∧i = .int .i64 k∧Ext w wr) (fun i _=>ng-(intOf i).toNat)
 case atStart=>exact ⟨0,Nat.zero_le _,rfl,Ext.refl _⟩
 case round =>
  obtain ⟨k,hk,rfl,hE⟩:=hrel;have hgw:=hg.ext hE;by_cases hlt:k<ng
  · obtain ⟨bg,og,ag1,ng1,cg1,rfl,hcg,hSg⟩:=hgw.at hlt;have hv:permB (gs.getD k [])=true:=(HP.out _ (by simp [List.getD_eq_getElem?_getD,HG.out,hlt])).1;generalize gs.getD k []=gk at *
    go_wp2_with fail
    refine (group_Valid hSg).mono ?_;rintro e w1 ⟨rfl,hE1⟩;go_wp2;go_roundw
    case rel=>exact ⟨k+1,by omega,by go_num,hE.trans hE1⟩
    case measure=>simp [intOf]; omega
  · obtain ⟨wo,rfl⟩:∃ wo:World,wo=wr:=⟨_,rfl⟩;go_wp2
    go_loop [31] (fun i=>∃ k:Nat,k≤ng∧i = .int .i64 k) (fun i=>ng-(intOf i).toNat)
    case atStart=>exact ⟨0,Nat.zero_le _,rfl⟩
    case round =>
     clear hlt;obtain ⟨k,hk,rfl⟩:=hrel;by_cases hlt:k<ng
     · obtain ⟨bg,og,ag1,ng1,cg1,rfl,hcg,hSg⟩:=hgw.at hlt;have hl:(gs.getD k []).length=n:=(HP.out _ (by simp [List.getD_eq_getElem?_getD,HG.out,hlt])).2;have hl2:ng1=n:=by have:=hSg.len; omega
       have hne:((ng1:Int) != (n:Int))=false:=by simp [hl2]
       clear hl hl2 hSg;go_wp2;go_round
       case rel=>exact ⟨k+1,by omega,by go_num⟩
       case measure=>simp [intOf]; omega
     · go_wp2_with fail
       refine (group_closure hgw hn HP.out).mono ?_;rintro e w1 ⟨r,L,rfl,hE1,hr,hM,hnd,hmem⟩;have hL12:=H12.out L hnd hmem;have hL1:0<L.length:=List.length_pos_of_mem ((hmem _).2 (reach_id gs n))
       go_wp2_with fail
       refine (group_sorted hM hn (fun x hx=>(reach_perm hn HP.out ((hmem x).1 hx)).2) hL12 hL1).mono ?_;rintro e w2 ⟨ps,⟨a2,n2,c2,cells,rfl,hE2,hn2,hO2,hQ2⟩,hperm,hord⟩;have HN2:=qh hn2;clear hn2;go_wp2
       go_ret2
       have hE3:=hE.trans hE1;refine ⟨ps,⟨a2,n2,c2,cells,rfl,hE3.trans hE2,HN2.out,Own.mono hO2 hE3.size, ?_⟩,hperm.nodup_iff.2 hnd,fun p=>by rw [hperm.mem_iff,hmem],by rw [hperm.length_eq]; exact hord⟩;intro i hi;obtain ⟨a',n',c',h1,h2⟩:=hQ2 i hi;exact ⟨a',n',c',h1,Own.mono h2 hE3.size⟩
theorem ord_unique {ps qs:List (List Int)} (hp:ps.Nodup) (hq:qs.Nodup) (h:∀ x,x∈ps↔x∈qs) (op:ordOn ps 0 ps.length) (oq:ordOn qs 0 qs.length):ps=qs:=by
 have key:∀ {l:List (List Int)},ordOn l 0 l.length→l.Pairwise (fun a b=>cmpL a b≤0):=by
  intro l hl;rw [List.pairwise_iff_getElem];intro i j hi hj hij;have:=hl i j (Nat.zero_le _) hij hj;simpa [List.getD_eq_getElem?_getD,hi,hj] using this
 refine List.Perm.eq_of_pairwise ?_ (key op) (key oq) (perm_of_mem hp hq h);intro a b _ _ h1 h2;have:=cmpL_anti a b;exact cmpL_eq (by omega)
def awG:List (List Int):=[[1,2,0]]
def awE:List (List Int):=[[0,1,2],[1,2,0],[2,0,1]]
theorem awReach (p:List Int):p∈awE↔Reach awG 3 p:=by
 constructor
 · intro h;simp only [awE,List.mem_cons,List.not_mem_nil,or_false] at h;rcases h with rfl|rfl|rfl
   · exact ⟨[],by simp,by decide⟩
   · exact ⟨[[1,2,0]],by simp [awG],by decide⟩
   · exact ⟨[[1,2,0],[1,2,0]],by simp [awG],by decide⟩
 · rintro ⟨ws,h1,rfl⟩
   induction ws with
   | nil=>decide
   | cons g ws ih =>
    have hg:g=[1,2,0]:=by simpa [awG] using h1 g (by simp)
    have:=ih (fun x hx=>h1 x (by simp [hx]));subst hg;rw [List.foldr_cons];revert this;generalize List.foldr comp (idn 3) ws=q;intro this;simp only [awE,List.mem_cons,List.not_mem_nil,or_false] at this;rcases this with rfl|rfl|rfl <;> decide
theorem lit_sl {w:World} {cs:Array Value} {xs:List Int} {n:Nat} (hn:cs.size=n) (h6:n≤1000000) (h:cs.toList=xs.map (Value.int .i64)):SlI (w.alloc (.cells cs 3)) (some ⟨w.heap.size,0,none⟩) n n xs:=by
 have:=(own_alloc w 0 3 cs n hn (Nat.zero_le _) h6).sl;rw [h] at this;exact this
theorem lit_slL {w:World} {cs:Array Value} {xss:List (List Int)} {n:Nat} (hn:cs.size=n) (h6:n≤1000000) (hl:xss.length=n) (h:∀ i,i<n→∃ a' n' c',cs.toList.getD i undef = .slice a' n' c'∧SlI w a' n' c' (xss.getD i [])) :
 SlL (w.alloc (.cells cs 22)) (some ⟨w.heap.size,0,none⟩) n n xss:=by
 refine ⟨hl,cs.toList,(own_alloc w 0 22 cs n hn (Nat.zero_le _) h6).sl,fun i hi => ?_⟩;obtain ⟨a',n',c',h1,h2⟩:=h i hi;exact ⟨a',n',c',h1,h2.ext ((Ext.refl w).alloc _)⟩
theorem awake_small:∀ L:List (List Int),L.Nodup→(∀ p,p∈L↔Reach awG 3 p)→L.length≤12:=by
 intro L hn hm;have:=nodup_le L awE hn (fun x hx=>(awReach x).2 ((hm x).1 hx));simp [awE] at this;omega
theorem awake_perms:PermsN awG 3:=by
 intro g hg;have:g=[1,2,0]:=by simpa [awG] using hg
 subst this;exact ⟨by decide,rfl⟩
theorem awE_ord:ordOn awE 0 awE.length:=by
 intro i j h1 h2 h3;have:j<3:=h3;have:(i=0∧j=1)∨(i=0∧j=2)∨(i=1∧j=2):=by omega
 rcases this with ⟨rfl,rfl⟩|⟨rfl,rfl⟩|⟨rfl,rfl⟩ <;> decide
theorem law_awake18 {w:World}:Calls Tryz.prog 11 #[] w fun e w'=>e = .returned (.bool true)∧Ext w w':=by
 go_enter Tryz.func11,Tryz.ntmps11
 go_wp2_with fail
 have s1:SlI ((w.alloc (.cells #[.int .i64 1, .int .i64 0, .int .i64 2] 3)).alloc (.cells #[.int .i64 0, .int .i64 2, .int .i64 1] 3)) (some ⟨w.heap.size,0,none⟩) 3 3 [1,0,2]:=(lit_sl (w:=w) (cs:=#[.int .i64 1, .int .i64 0, .int .i64 2]) (xs:=[1,0,2]) (n:=3) rfl (by omega) rfl).ext ((Ext.refl _).alloc _);have s2:SlI ((w.alloc (.cells #[.int .i64 1, .int .i64 0, .int .i64 2] 3)).alloc (.cells #[.int .i64 0, .int .i64 2, .int .i64 1] 3)) (some ⟨w.heap.size+1,0,none⟩) 3 3 [0,2,1]:=by
  have:=lit_sl (w:=w.alloc (.cells #[.int .i64 1, .int .i64 0, .int .i64 2] 3)) (cs:=#[.int .i64 0, .int .i64 2, .int .i64 1]) (xs:=[0,2,1]) (n:=3) rfl (by omega) rfl;simpa using this
 have hE0:Ext w ((w.alloc (.cells #[.int .i64 1, .int .i64 0, .int .i64 2] 3)).alloc (.cells #[.int .i64 0, .int .i64 2, .int .i64 1] 3)):=((Ext.refl w).alloc _).alloc _;refine (group_Compose s1 s2).mono ?_;rintro e w1 ⟨a1,n1,c1,rfl,hE1,hO1⟩;have hcs:composeS [1,0,2] [0,2,1]=([1,2,0],0):=by decide
 rw [hcs] at hO1 ⊢;have hEw1:=hE0.trans hE1;have hsl1:=hO1.sl;clear s1 s2 hE0 hE1 hO1 hcs
 go_wp2_with fail
 have s3:SlL ((w1.alloc (.cells #[.int .i64 1, .int .i64 2, .int .i64 0] 3)).alloc (.cells #[.slice (some ⟨w1.heap.size,0,none⟩) 3 3] 22)) (some ⟨w1.heap.size+1,0,none⟩) 1 1 awG:=by
  have:=lit_slL (w:=w1.alloc (.cells #[.int .i64 1, .int .i64 2, .int .i64 0] 3)) (cs:=#[.slice (some ⟨w1.heap.size,0,none⟩) 3 3]) (xss:=awG) (n:=1) rfl (by omega) rfl (by
   intro i hi;have:i=0:=by omega
   subst this
   exact ⟨_,_,_,rfl,lit_sl (w:=w1) (cs:=#[.int .i64 1, .int .i64 2, .int .i64 0]) (xs:=[1,2,0]) (n:=3) rfl (by omega) rfl⟩)
  simpa using this
 have hE2:Ext w1 ((w1.alloc (.cells #[.int .i64 1, .int .i64 2, .int .i64 0] 3)).alloc (.cells #[.slice (some ⟨w1.heap.size,0,none⟩) 3 3] 22)):=((Ext.refl w1).alloc _).alloc _;refine (group_Generate_ok (n:=3) s3 (by omega) awake_perms (by omega) awake_small).mono ?_;rintro e w2 ⟨ps,⟨a2,n2,c2,cells,rfl,hE3,hn2,hO2,hQ2⟩,hnd,hmem,hord⟩;have hps:ps=awE:=ord_unique hnd (by decide) (fun x=>by rw [hmem,awReach]) hord awE_ord;subst hps;have hsl2:=slL_of hn2 hO2 hQ2;have hEw2:=hEw1.trans (hE2.trans hE3);have hs1:=hsl1.ext (hE2.trans hE3);clear hn2 hO2 hQ2 hnd hmem hord hE2 hE3 hEw1 hsl1 s3
 go_wp2_with fail
 have hE4:Ext w2 (w2.alloc (.cells #[.int .i64 1, .int .i64 2, .int .i64 0] 3)):=(Ext.refl w2).alloc _;refine (keep_Ints (hs1.ext hE4) (lit_sl (w:=w2) (cs:=#[.int .i64 1, .int .i64 2, .int .i64 0]) (xs:=[1,2,0]) (n:=3) rfl (by omega) rfl)).mono ?_;rintro e w3 ⟨rfl,hQ3⟩;have hd:decide (([1,2,0]:List Int)=[1,2,0])=true:=by decide
 rw [hd];have hEw3:=hEw2.trans (hE4.trans hQ3.ext);have hs3:=hsl2.ext (hE4.trans hQ3.ext);clear hEw2 hE4 hQ3 hs1 hsl2 hd
 go_wp2_with fail
 have r0:=lit_sl (w:=w3) (cs:=#[.int .i64 0, .int .i64 1, .int .i64 2]) (xs:=[0,1,2]) (n:=3) rfl (by omega) rfl;have r1:=lit_sl (w:=w3.alloc (.cells #[.int .i64 0, .int .i64 1, .int .i64 2] 3)) (cs:=#[.int .i64 1, .int .i64 2, .int .i64 0]) (xs:=[1,2,0]) (n:=3) rfl (by omega) rfl;have r2:=lit_sl (w:=(w3.alloc (.cells #[.int .i64 0, .int .i64 1, .int .i64 2] 3)).alloc (.cells #[.int .i64 1, .int .i64 2, .int .i64 0] 3)) (cs:=#[.int .i64 2, .int .i64 0, .int .i64 1]) (xs:=[2,0,1]) (n:=3) rfl (by omega) rfl
 have z1:(w3.alloc (.cells #[.int .i64 0, .int .i64 1, .int .i64 2] 3)).heap.size=w3.heap.size+1:=by simp
 have z2:((w3.alloc (.cells #[.int .i64 0, .int .i64 1, .int .i64 2] 3)).alloc (.cells #[.int .i64 1, .int .i64 2, .int .i64 0] 3)).heap.size=w3.heap.size+1+1:=by simp
 have z3:(((w3.alloc (.cells #[.int .i64 0, .int .i64 1, .int .i64 2] 3)).alloc (.cells #[.int .i64 1, .int .i64 2, .int .i64 0] 3)).alloc (.cells #[.int .i64 2, .int .i64 0, .int .i64 1] 3)).heap.size=w3.heap.size+1+1+1:=by simp
 rw [z1] at r1;rw [z2] at r2
 have s4:=lit_slL (w:=((w3.alloc (.cells #[.int .i64 0, .int .i64 1, .int .i64 2] 3)).alloc (.cells #[.int .i64 1, .int .i64 2, .int .i64 0] 3)).alloc (.cells #[.int .i64 2, .int .i64 0, .int .i64 1] 3))
  (cs:=#[.slice (some ⟨w3.heap.size,0,none⟩) 3 3, .slice (some ⟨w3.heap.size+1,0,none⟩) 3 3, .slice (some ⟨w3.heap.size+1+1,0,none⟩) 3 3]) (xss:=awE) (n:=3) rfl (by omega) rfl (by
   intro i hi;have:i=0∨i=1∨i=2:=by omega
   rcases this with rfl|rfl|rfl
   · exact ⟨_,_,_,rfl,(r0.ext ((Ext.refl _).alloc _)).ext ((Ext.refl _).alloc _)⟩
   · exact ⟨_,_,_,rfl,r1.ext ((Ext.refl _).alloc _)⟩
   · exact ⟨_,_,_,rfl,r2⟩)
 rw [z3] at s4;refine (keep_Lists (hs3.ext ((((Ext.refl w3).alloc _).alloc _).alloc _ |>.alloc _)) s4).mono ?_;rintro e w4 ⟨rfl,hQ4⟩;have hd:decide (awE=awE)=true:=by decide
 rw [hd];have hEw4:=(hEw3.trans ((((Ext.refl w3).alloc _).alloc _).alloc _ |>.alloc _)).trans hQ4.ext;clear r0 r1 r2 z1 z2 z3 s4 hQ4 hs3 hd;go_wp2;go_ret;exact ⟨rfl,hEw4⟩
end Go.Proofs.YtlpgonpfjbhmfaaGreatDoor
