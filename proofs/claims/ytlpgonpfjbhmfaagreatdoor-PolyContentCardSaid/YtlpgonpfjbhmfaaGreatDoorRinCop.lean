/- Part RinCop. -/
import Derived.Test.YtlpgonpfjbhmfaaGreatDoorRin35
import Derived.Test.YtlpgonpfjbhmfaaGreatDoorRin36
set_option maxRecDepth 100000
set_option maxHeartbeats 100000000
namespace Go.Proofs.YtlpgonpfjbhmfaaGreatDoor
open Go Go.RowKit
theorem coef_sclR (q:Rat) (l:List Pl.Tm) (e:List Int):Pl.coef (sclR q l) e=q*Pl.coef l e:=by
 unfold sclR;split
 · rename_i h;rw [h,Rat.zero_mul];rfl
 · rw [←Pl.coef_scl];congr 1;unfold Pl.scl;exact List.map_congr_left fun t _=>by rw [Rat.mul_comm]
theorem sclR_len (q:Rat) (l:List Pl.Tm):(sclR q l).length≤l.length:=by
 unfold sclR;split
 · simp
 · simp
theorem sclR_key {q:Rat} {l:List Pl.Tm}:∀ u∈sclR q l,∃ t∈l,t.1=u.1:=by
 intro u hu;unfold sclR at hu;split at hu
 · cases hu
 · obtain ⟨t,ht,rfl⟩:=List.mem_map.1 hu;exact ⟨t,ht,rfl⟩
theorem sclR_InV {n:Nat} {q:Rat} {l:List Pl.Tm} (h:∀ t∈l,InV n t.1):∀ u∈sclR q l,InV n u.1:=by
 intro u hu;obtain ⟨t,ht,e⟩:=sclR_key u hu;rw [←e];exact h t ht
noncomputable def sclA (va:Int) (q:Rat) (o:Option (List Pl.Tm)):Int×List Tx×Int:=match o with | some l=>resQ va (sclR q l) | none=>(0,[],1)
structure Rb (v:Int) (b:Nat) (l:List Pl.Tm):Prop where
 pv:Pv v l
 lo:Lo l
 len:l.length≤4096
 sum:∀ t∈l,t.1.sum≤24
 rb:∀ t∈l,Pl.RB b t.2
section
variable {v:Int} {b c:Nat} {l:List Pl.Tm} {ts:List Tx} {q:Rat}
theorem rdP_sums (h:rdP v ts=some l):∀ t∈l,t.1.sum≤24:=by
 have hc:=rdP_canon h;have hk:=rdP_okW h;cases l with
 | nil=>intro t ht; cases ht
 | cons t r =>
  intro s hs;have h1:=canon_sum hc s hs;have h2:=(validS_iff.1 (hk.2 t r rfl)).2.2;omega
theorem Rb.coef (h:Rb v b l) {e:List Int} (he:Pl.coef l e≠0):∃ t∈l,t.1=e∧t.2=Pl.coef l e:=by
 obtain ⟨t,ht,rfl⟩:=Pl.coef_present he;exact ⟨t,ht,rfl,(Pl.coef_mem (canon_nrm h.pv.can).nodup ht).symm⟩
theorem Rb.text (h:Rb v b l) (hr:rdP v ts=some l) (hb:b≤840):∀ t∈ts,t.1.length≤570:=by
 intro t ht;have hw:=rdP_wrT hr;rw [←hw] at ht;obtain ⟨m,hm,rfl⟩:=List.mem_map.1 ht;have:=txt_len (h.rb m hm);show (txt m.2).length≤570;omega
theorem Rb.fits (h:Rb v b l) (hq:Pl.RB c q) (hb:b+c≤1920):FitsP (sclR q l):=by
 refine ⟨fun e he => ?_,by have:=sclR_len q l; have:=h.len; omega⟩;rw [coef_sclR] at he ⊢;have hne:Pl.coef l e≠0:=fun h0=>he (by rw [h0,Rat.mul_zero]);obtain ⟨t,ht,rfl,e2⟩:=h.coef hne;rw [←e2];refine ⟨RB.str (b:=b+c) (by rw [Rat.mul_comm]; exact (h.rb t ht).mul hq) hb,(h.lo t ht).1,fun x hx => ?_⟩;have:=(h.lo t ht).2 x hx;omega
theorem Rb.scl (h:Rb v b l) (hq:Pl.RB c q) {ol:Option (List Pl.Tm)} (hol:ol=some l):∃ t,sclA v q ol=(v,t,0)∧rdP v t=some (cnP (sclR q l))∧Rb v (b+c) (cnP (sclR q l))∧∀ e,Pl.coef (cnP (sclR q l)) e=q*Pl.coef l e:=by
 subst hol;have hi:=sclR_InV (q:=q) h.pv.inv;have h6:∀ t∈sclR q l,t.1.length=6:=fun t ht=>(hi t ht).1
 have h0:(resQ v (sclR q l)).2.2=0:=resQ_fine hi (Nat.le_trans (sclR_len q l) h.len) (fun u hu=>by
  obtain ⟨t,ht,e⟩:=sclR_key u hu;rw [←e]
  exact h.sum t ht)
 obtain ⟨g1,g2⟩:=resQ_ok h.pv.v0 hi h0;have hcs:∀ e,Pl.coef (cnP (sclR q l)) e=q*Pl.coef l e:=fun e=>by rw [(cnP_spec h6).2 e,coef_sclR]
 have pv:Pv v (cnP (sclR q l)):=⟨h.pv.v0,(cnP_spec h6).1,cnP_InV hi⟩;refine ⟨(resQ v (sclR q l)).2.1, ?_,g2,⟨pv,rdP_exps g2,Nat.le_trans (cnP_len h6) (Nat.le_trans (sclR_len q l) h.len),rdP_sums g2,fun u hu => ?_⟩,hcs⟩
 · show resQ v (sclR q l)=_
   conv=>lhs; rw [←Prod.eta (resQ v (sclR q l)),←Prod.eta (resQ v (sclR q l)).2,g1,h0]
 · have e1:=Pl.coef_mem (canon_nrm pv.can).nodup hu;rw [hcs] at e1;have hne:Pl.coef l u.1≠0:=fun h0=>pv.can.nz u hu (by rw [←e1,h0,Rat.mul_zero]);obtain ⟨t,ht,e2,e3⟩:=h.coef hne;rw [←e1,←e3,Rat.mul_comm];exact (h.rb t ht).mul hq
end
section
variable {v:Int} {N d y b:Nat} {la:List Pl.Tm} {ts:List Tx}
theorem Bd.cont (ha:Bd v N d y la) (h1:d≤1900) (h2:y<1900):ContOK la:=by
 obtain ⟨D,a1,a2,a3⟩:=ha.sb;exact ⟨Nat.lt_of_le_of_lt (a3.lcm a1) (P2_lt a2 h1),fun t ht=>Nat.lt_of_le_of_lt ((a3 t ht).parts a1).1 (P2_slt h2)⟩
theorem Bd.crb (ha:Bd v N d y la) (h1:d≤b) (h2:y<b):Pl.RB b (Pl.cont la):=by
 obtain ⟨D,a1,a2,a3⟩:=ha.sb;have h3:=gcdN_lt (P2_pos b) (fun t ht=>Nat.lt_of_le_of_lt ((a3 t ht).parts a1).1 (P2_slt h2)) ha.pv.can.nz la.length;rw [List.take_length] at h3;have h4:=cont_parts la;exact ⟨Nat.lt_of_le_of_lt h4.1 h3,Nat.lt_of_le_of_lt h4.2 (Nat.lt_of_le_of_lt (a3.lcm a1) (P2_lt a2 h1))⟩
theorem Bd.rbs (ha:Bd v N d y la) (h:rdP v ts=some la) (h1:d≤b) (h2:y<b) (h3:N≤4096):Rb v b la:=by
 obtain ⟨D,a1,a2,a3⟩:=ha.sb;exact ⟨ha.pv,ha.lo,Nat.le_trans ha.len h3,rdP_sums h,fun t ht=>(a3 t ht).rb a1 (P2_lt a2 h1) (P2_slt h2)⟩
end
theorem txt_570 {q:Rat} (h:Pl.RB 149 q):(txt q).length≤570:=by
 have:=txt_len h;omega
theorem primF_is (l:List Pl.Tm):∃ s:Rat,(s=1∨s = -1)∧primF l=s*(Pl.cont l)⁻¹:=by
 unfold primF;split
 · exact ⟨-1,Or.inr rfl,by rw [Rat.neg_mul,Rat.one_mul]⟩
 · exact ⟨1,Or.inl rfl,by rw [Rat.one_mul]⟩
theorem cont_all_mul {v:Int} {la lb:List Pl.Tm} (ha:Pv v la) (hb:Pv v lb):Pl.cont (cnP (Pl.prodT la lb))=Pl.cont la*Pl.cont lb:=by
 have h0:Pl.cont []=0:=by decide
 by_cases na:la=[]
 · have:=(ha.nil_iff hb).2 (Or.inl na);rw [this,na,h0,Rat.zero_mul]
 by_cases nb:lb=[]
 · have:=(ha.nil_iff hb).2 (Or.inr nb);rw [this,nb,h0,Rat.mul_zero]
 exact cont_mul ha hb na nb
theorem cont_sgn {v:Int} {la:List Pl.Tm} (ha:Pv v la) {s:Rat} (e:List Int):Pl.cont la*(s*(Pl.cont la)⁻¹*Pl.coef la e)=s*Pl.coef la e:=by
 by_cases na:la=[]
 · subst na;show _*(_*0)=_*0;rw [Rat.mul_zero,Rat.mul_zero,Rat.mul_zero]
 · have hp:=Pl.cont_pos na ha.can.nz;have hne:Pl.cont la≠0:=fun h=>by rw [h] at hp; exact absurd hp (by decide)
   have hi:=Rat.mul_inv_cancel _ hne;rw [←Rat.mul_assoc,←Rat.mul_assoc,Rat.mul_comm (Pl.cont la) s,Rat.mul_assoc s,hi,Rat.mul_one]
section
variable {va vb:Int} {ta tb:List Tx}
theorem Bd58 {v:Int} {ts:List Tx} {l:List Pl.Tm} (h:rdP v ts=some l) (hs:smallP ts 5 8):Bd v 5 121 148 l:=Bd.of h hs (by omega) P2_27
theorem cont_mulOK (s1:smallP ta 5 8) (s2:smallP tb 5 8):∀ la lb,rdP va ta=some la→rdP vb tb=some lb→va=vb→MulOK la lb:=by
 rintro la lb h1 h2 rfl;exact (Bd58 h1 s1).mul (Bd58 h2 s2) (k:=5) (P2_num 5 (by decide) rfl) (by omega) (by omega) (by omega) (by omega)
structure ContS (va v3:Int) (ta tb t3:List Tx) (x y:Rat) (t6 t7 t8:List Tx):Prop where
 ca:contA (rdP va ta)=(txt x,0)
 cb:contA (rdP va tb)=(txt y,0)
 cp:contA (rdP va t3)=(txt (x*y),0)
 oa:∀ l,rdP va ta=some l→ContOK l
 ob:∀ l,rdP va tb=some l→ContOK l
 op:∀ l,rdP va t3=some l→ContOK l
 x3:∀ t∈t3,t.1.length≤570
 rx:Pl.RB 149 x
 ry:Pl.RB 149 y
 p6:primA va (rdP va ta)=(va,t6,0)
 o6:∀ l,rdP va ta=some l→ContOK l∧FitsP (sclR (primF l) l)
 x6:∀ t∈t6,t.1.length≤570
 p7:sclA va x (rdP va t6)=(va,t7,0)
 o7:∀ l,rdP va t6=some l→FitsP (sclR x l)
 x7:∀ t∈t7,t.1.length≤570
 p8:sclA va (-1) (rdP va t7)=(va,t8,0)
 o8:∀ l,rdP va t7=some l→FitsP (sclR (-1) l)
 out:t7=ta∨t8=ta
theorem contS {v3:Int} {t3:List Tx} (s1:smallP ta 5 8) (s2:smallP tb 5 8) (h3:mulA va vb (rdP va ta) (rdP vb tb)=(v3,t3,0)):(va=vb∧va=v3)∧∃ x y t6 t7 t8,ContS va v3 ta tb t3 x y t6 t7 t8:=by
 obtain ⟨la,lb,ra,rb,e1,e2,r3⟩:=mul_fact h3;subst e1; subst e2;refine ⟨⟨rfl,rfl⟩, ?_⟩;have ba:=Bd58 ra s1;have bb:=Bd58 rb s2;have b3:=ba.prod bb r3 (k:=5) (P2_num 5 (by decide) rfl);have Ra:=ba.rbs ra (b:=149) (by omega) (by omega) (by omega);have cx:Pl.RB 149 (Pl.cont la):=ba.crb (by omega) (by omega);have pf:Pl.RB 149 (primF la):=by
  have h1:=RB.inv cx (by omega);unfold primF;split
  · exact h1.neg
  · exact h1
 have m1:Pl.RB 3 (-1):=RB_lit (by decide) (by decide) (by omega);obtain ⟨t6,p6,r6,R6,c6⟩:=Ra.scl pf ra;obtain ⟨t7,p7,r7,R7,c7⟩:=R6.scl cx r6;obtain ⟨t8,p8,r8,R8,c8⟩:=R7.scl m1 r7;obtain ⟨s,hs,es⟩:=primF_is la
 have k7:∀ e,Pl.coef (sclR (Pl.cont la) (cnP (sclR (primF la) la))) e=s*Pl.coef la e:=fun e=>by
  rw [coef_sclR,c6,es,cont_sgn ba.pv]
 refine ⟨Pl.cont la,Pl.cont lb,t6,t7,t8,{ ca:=by rw [ra]; rfl,cb:=by rw [rb]; rfl,cp := ?_,oa := ?_,ob := ?_,op := ?_,x3:=b3.text r3 (by omega) (by omega),rx:=cx,ry:=bb.crb (by omega) (by omega),p6 := ?_,o6 := ?_,x6:=R6.text r6 (by omega),p7:=p7,o7 := ?_,x7:=R7.text r7 (by omega),p8:=p8,o8 := ?_,out := ?_ }⟩
 · rw [r3];show (txt (Pl.cont (cnP (Pl.prodT la lb))),(0:Int))=_;rw [cont_all_mul ba.pv bb.pv]
 · intro l h; rw [ra] at h; cases h;exact ba.cont (by omega) (by omega)
 · intro l h; rw [rb] at h; cases h;exact bb.cont (by omega) (by omega)
 · intro l h; rw [r3] at h; cases h;exact b3.cont (by omega) (by omega)
 · rw [ra] at p6 ⊢;exact p6
 · intro l h; rw [ra] at h; cases h;exact ⟨ba.cont (by omega) (by omega),Ra.fits pf (by omega)⟩
 · intro l h; rw [r6] at h; cases h;exact R6.fits cx (by omega)
 · intro l h; rw [r7] at h; cases h;exact R7.fits m1 (by omega)
 · rcases hs with rfl|rfl
   · left;have:=rdP_resQ ra (p:=sclR (Pl.cont la) (cnP (sclR (primF la) la))) (fun e=>by rw [k7,Rat.one_mul]);rw [r6] at p7;have h:=p7.symm.trans this;exact (Prod.mk.inj (Prod.mk.inj h).2).1
   · right
     have:=rdP_resQ ra (p:=sclR (-1) (cnP (sclR (Pl.cont la) (cnP (sclR (primF la) la))))) (fun e=>by
      rw [coef_sclR,(cnP_spec (fun t ht=>(sclR_InV R6.pv.inv t ht).1)).2,k7,←Rat.mul_assoc]
      rw [show (-1:Rat) * -1=1 by rw [Rat.neg_mul,Rat.one_mul,Rat.neg_neg],Rat.one_mul])
     rw [r7] at p8;have h:=p8.symm.trans this;exact (Prod.mk.inj (Prod.mk.inj h).2).1
end
end Go.Proofs.YtlpgonpfjbhmfaaGreatDoor
