/- Part Gan30. -/
import Derived.Test.YtlpgonpfjbhmfaaGreatDoorGan29
set_option maxRecDepth 100000
set_option maxHeartbeats 100000000
namespace Go.Proofs.YtlpgonpfjbhmfaaGreatDoor
open Go Go.RowKit
theorem lcm_dvd_l (a d:Nat):a∣a*(d/Nat.gcd a d):=Nat.dvd_mul_right _ _
theorem lcm_dvd_r (a d:Nat):d∣a*(d/Nat.gcd a d):=by
 have h1:a*(d/Nat.gcd a d)=a/Nat.gcd a d*d:=by
  rw [←Nat.mul_div_assoc _ (Nat.gcd_dvd_right a d),Nat.mul_comm a d,Nat.mul_div_assoc _ (Nat.gcd_dvd_left a d),Nat.mul_comm]
 rw [h1];exact Nat.dvd_mul_left _ _
theorem lcmF_dvd:∀ (l:List Rat) (a:Nat),a∣l.foldl (fun a q=>a*(q.den/Nat.gcd a q.den)) a∧∀ q∈l,q.den∣l.foldl (fun a q=>a*(q.den/Nat.gcd a q.den)) a
 | [],a=>⟨Nat.dvd_refl _,by simp⟩
 | q :: r,a=>by
  have ih:=lcmF_dvd r (a*(q.den/Nat.gcd a q.den));refine ⟨Nat.dvd_trans (lcm_dvd_l a q.den) ih.1,fun p hp => ?_⟩;rcases List.mem_cons.1 hp with rfl|hp
  · exact Nat.dvd_trans (lcm_dvd_r a p.den) ih.1
  · exact ih.2 p hp
theorem lcmD_dvd {l:List Rat} {q:Rat} (h:q∈l):q.den∣lcmD l:=(lcmF_dvd l 1).2 q h
theorem lcmD_take_le {l:List Rat} (k:Nat):lcmD (l.take k)≤lcmD l:=by
 have h:lcmD (l.take k)∣lcmD l:=by
  have e:lcmD l=(l.drop k).foldl (fun a q=>a*(q.den/Nat.gcd a q.den)) (lcmD (l.take k)):=by
   unfold lcmD;rw [←List.foldl_append,List.take_append_drop]
  rw [e];exact (lcmF_dvd _ _).1
 exact Nat.le_of_dvd (lcmD_pos l) h
theorem bit_le {x L:Nat} (hx:x<P2 256) (h:0<x→0<L∧P2 (L-1)≤x) (h0:0<x):L≤256:=by
 obtain ⟨h1,h2⟩:=h h0;refine Classical.byContradiction fun hc => ?_;have h3:P2 256≤P2 (L-1):=P2_le (by omega);omega
theorem poly_product {A B:Option Addr} {N C M D:Nat} {la lb:List Pl.Tm} {w:World} (hT:Tabs w) (hLa:EntSl w A N C la) (hLb:EntSl w B M D lb) (ba:∀ t∈la,Pl.RB 1000 t.2) (bb:∀ t∈lb,Pl.RB 1000 t.2)
 (ea:smallE la) (eb:smallE lb) (hN:N≤1000000) (hM:M≤1000000) (hNM:N*M≤1000000) (hla:lcmD (la.map (·.2))<P2 256) (hlb:lcmD (lb.map (·.2))<P2 256) :
 Calls Tryz.prog 46 #[.slice A N C, .slice B M D] w (fun e w'=>∃ out,RetOw w out e w'∧Pl.Nrm out∧∀ e,Pl.coef out e=Pl.coef (Pl.prodT la lb) e):=by
 have hca:=fun (wx:World) (hC:Ext w wx)=>qh (poly_commonDen (hT.ext hC) (hLa.ext hC) hN (fun q hq=>by obtain ⟨t,ht,rfl⟩:=List.mem_map.1 hq; exact P2_lt (ba t ht).2 (by omega)) (fun k=>P2_lt (Nat.lt_of_le_of_lt (lcmD_take_le k) hla) (by omega)));have hcb:=fun (wx:World) (hC:Ext w wx)=>qh (poly_commonDen (hT.ext hC) (hLb.ext hC) hM (fun q hq=>by obtain ⟨t,ht,rfl⟩:=List.mem_map.1 hq; exact P2_lt (bb t ht).2 (by omega)) (fun k=>P2_lt (Nat.lt_of_le_of_lt (lcmD_take_le k) hlb) (by omega)))
 have hps:=fun (wx:World) (hC:Ext w wx) (v v':Value) (h1:IntR wx v (lcmD (la.map (·.2)):Int)) (h2:IntR wx v' (lcmD (lb.map (·.2)):Int))=>qh (poly_productScaled (hT.ext hC) (hLa.ext hC) (hLb.ext hC) h1 h2 (fun t ht=>lcmD_dvd (List.mem_map_of_mem ht)) (fun t ht=>lcmD_dvd (List.mem_map_of_mem ht)) (by have:=lcmD_pos (la.map (·.2)); omega) (by have:=lcmD_pos (lb.map (·.2)); omega) ba bb (P2_lt hla (by omega)) (P2_lt hlb (by omega)) ea eb hN hM hNM);have hpa:=lcmD_pos (la.map (·.2));have hpb:=lcmD_pos (lb.map (·.2));have HLA:=qh hla;have HLB:=qh hlb;clear ba bb ea eb hla hlb hLa hLb
 generalize lcmD (la.map (·.2))=sa at *
 generalize lcmD (lb.map (·.2))=sb at *
 go_enter Tryz.func46,Tryz.ntmps46
 go_wp2_with fail
 refine (hca _ (Ext.refl w)).out.mono ?_;rintro e w1 ⟨s1,a1,n1,c1,rfl,hE1,HS1,hx1⟩
 go_wp2_with fail
 refine (hcb _ hE1).out.mono ?_;rintro e w2 ⟨s2,a2,n2,c2,rfl,hE2,HS2,hx2⟩;have hE12:=hE1.trans hE2;have hx1':=hx1.ext hE2;have hl1:(intL s1 a1 n1 c1).toArray=#[.bool s1, .slice a1 n1 c1]:=rfl;have hl2:(intL s2 a2 n2 c2).toArray=#[.bool s2, .slice a2 n2 c2]:=rfl;have hY1:=arr2_fst w2 (intL false none 0 0) (intL false none 0 0) 90 90;have hY2:=arr2_snd w2 (intL false none 0 0) (intL false none 0 0) 90 90;have hE3:=ext2 w2 (.cells (intL false none 0 0).toArray 90) (.cells (intL false none 0 0).toArray 90)
 go_upto_region 2 with (first
  | (refine wl_stArr (vs:=intL s1 a1 n1 c1) rfl rfl rfl rfl rfl agg_Int hY1 rfl (intL_one _ _ _ _) ?_; intro w3 hB3 hg3; have hY3:=hY2.kept hg3 (by simp); clear hY1)
  | (refine wl_stArr (vs:=intL s2 a2 n2 c2) rfl rfl rfl rfl rfl agg_Int hY3 rfl (intL_one _ _ _ _) ?_; intro w4 hB4 hg4))
 have hE24:Ext w2 w4:=((hE3.grownR hg3 (Nat.le_refl _)).grownR hg4 (by omega));have hB5:=hB3.kept hg4 (by simp);have hEw:=hE12.trans hE24;have hxa:=hx1'.ext hE24;have hxb:=hx2.ext hE24;obtain ⟨Z,hZ⟩:∃ x,w2.heap.size=x:=⟨_,rfl⟩;rw [hZ] at hB5 hB4;rw [hZ];have c0:=hB5.c 0 rfl;have c1':=hB5.c 1 rfl;have e0:=hB4.c 0 rfl;have e1:=hB4.c 1 rfl;have hba:=qh (int_BitLen (w:=w4) (v := .agg #[.bool s1, .slice a1 n1 c1]) (z:=(sa:Int)) ⟨s1,a1,n1,c1,rfl,HS1,hxa⟩ (P2_lt HLA.out (by omega)));clear hca hcb hE1 hE2 hx1 hx1' hx2 hY2 hY3 hE3 hg3 hg4 hB3 hB4 hB5 hl1 hl2 hE24 hE12
 go_wp2_with fail
 refine hba.out.mono ?_;rintro e w5 ⟨L1,rfl,hE5,_,_,hL1⟩;have hL1':(L1:Int)≤256:=by have:=bit_le (x:=sa) HLA.out hL1 hpa; omega
 have hxb5:=hxb.ext hE5;have c0:=hE5.cell c0;have c1':=hE5.cell c1';have e0:=hE5.cell e0;have e1:=hE5.cell e1;have hbb:=qh (int_BitLen (w:=w5) (v := .agg #[.bool s2, .slice a2 n2 c2]) (z:=(sb:Int)) ⟨s2,a2,n2,c2,rfl,HS2,hxb5⟩ (P2_lt HLB.out (by omega)));clear hba hL1
 go_wp2_with fail
 refine hbb.out.mono ?_;rintro e w6 ⟨L2,rfl,hE6,_,_,hL2⟩;have hL2':(L2:Int)≤256:=by have:=bit_le (x:=sb) HLB.out hL2 hpb; omega
 have c0:=hE6.cell c0;have c1':=hE6.cell c1';have e0:=hE6.cell e0;have e1:=hE6.cell e1;have hE46:=hE5.trans hE6;have HPS:=hps w6 (hEw.trans hE46) (.agg #[.bool s1, .slice a1 n1 c1]) (.agg #[.bool s2, .slice a2 n2 c2]) ⟨s1,a1,n1,c1,rfl,HS1,hxa.ext hE46⟩ ⟨s2,a2,n2,c2,rfl,HS2,hxb.ext hE46⟩;clear hbb hL2 hps
 go_wp2_with fail
 refine HPS.out.mono ?_;rintro e w7 ⟨out,⟨a7,n7,c7,rfl,hE7,hO7⟩,hnr,hcf⟩;have HNR:=qh (And.intro hnr hcf);clear hnr hcf;go_wp2;go_ret;have hEf:=hEw.trans hE46;exact ⟨out,⟨a7,n7,c7,rfl,hEf.trans hE7,hO7.mono hEf.size⟩,HNR.out.1,HNR.out.2⟩
structure FitsP (p:List Pl.Tm):Prop where
 atE:∀ e,Pl.coef p e≠0→StrOK (Pl.coef p e)∧e.length=6∧∀ x∈e,0≤x∧x≤1099511627776
 len:p.length≤1000000
theorem nrm_coef {out p:List Pl.Tm} (hn:Pl.Nrm out) (hc:∀ e,Pl.coef out e=Pl.coef p e) {t:Pl.Tm} (ht:t∈out):Pl.coef p t.1=t.2:=by rw [←hc]; exact Pl.coef_mem hn.nodup ht
theorem FitsP.out {out p:List Pl.Tm} (h:FitsP p) (hn:Pl.Nrm out) (hc:∀ e,Pl.coef out e=Pl.coef p e):smallE out∧(∀ t∈out,StrOK t.2)∧out.length≤1000000:=by
 have key:∀ t∈out,Pl.coef p t.1≠0:=fun t ht=>by rw [nrm_coef hn hc ht]; exact hn.nz t ht
 refine ⟨fun t ht=>(h.atE t.1 (key t ht)).2,fun t ht => ?_, ?_⟩
 · have:=(h.atE t.1 (key t ht)).1;rw [nrm_coef hn hc ht] at this;exact this
 · refine Nat.le_trans ?_ h.len
   have h1:=Pl.nodup_le (out.map (·.1)) (p.map (·.1)) hn.nodup (fun e he=>by
    obtain ⟨t,ht,rfl⟩:=List.mem_map.1 he;obtain ⟨s,hs,e⟩:=Pl.coef_present (key t ht);rw [←e]
    exact List.mem_map_of_mem hs)
   simpa using h1
def RetTwo (w:World) (va vb:Int) (oa ob:Option (List Pl.Tm)) (e:Ending) (w':World):Prop :=
 ∃ a n c b m d err,e = .returned (.tuple #[.slice a n c, .slice b m d, .int .i64 err])∧Ext w w'∧((∃ la lb,oa=some la∧ob=some lb∧va=vb∧err=0∧EntSl w' a n c la∧EntSl w' b m d lb)∨((oa.isSome && ob.isSome)=true∧va≠vb∧err=4)∨((oa.isSome && ob.isSome)=false∧err=1))
theorem poly_readTwo {va vb:Int} {a b:Option Addr} {n c m d:Nat} {ta tb:List Tx} {w:World} (hT:Tabs w) (ha:TmSl w a n c ta) (hb:TmSl w b m d tb) (sa:∀ t∈ta,t.1.length≤570) (sb:∀ t∈tb,t.1.length≤570) :
 Calls Tryz.prog 43 #[.agg #[.int .i64 va, .slice a n c], .agg #[.int .i64 vb, .slice b m d]] w (RetTwo w va vb (rdP va ta) (rdP vb tb)):=by
 have hra:=fun (wx:World) (hC:Ext w wx)=>qh (poly_read (vars:=va) (hT.ext hC) (ha.ext hC) sa);have hrb:=fun (wx:World) (hC:Ext w wx)=>qh (poly_read (vars:=vb) (hT.ext hC) (hb.ext hC) sb);obtain ⟨oa,hoa⟩:∃ o,rdP va ta=o:=⟨_,rfl⟩;obtain ⟨ob,hob⟩:∃ o,rdP vb tb=o:=⟨_,rfl⟩;rw [hoa] at hra ⊢;rw [hob] at hrb ⊢;clear hoa hob sa sb ha hb
 go_enter Tryz.func43,Tryz.ntmps43
 go_upto_region 1 with (fail)
 refine box2 ?_;intro w0 hE0 hB0 hB1 hz0;have p00:=hB0.c 0 rfl;have p01:=hB0.c 1 rfl;have p10:=hB1.c 0 rfl;have p11:=hB1.c 1 rfl;clear hB0 hB1 hz0
 go_wp2_with fail
 refine (hra _ hE0).out.mono ?_;rintro e w1 ⟨a1,n1,c1,rfl,hE1,hL1⟩;have p00:=hE1.cell p00;have p10:=hE1.cell p10;have p11:=hE1.cell p11
 go_wp2_with fail
 refine (hrb _ (hE0.trans hE1)).out.mono ?_;rintro e w2 ⟨a2,n2,c2,rfl,hE2,hL2⟩;have p00:=hE2.cell p00;have p10:=hE2.cell p10;have hEw:=(hE0.trans hE1).trans hE2;have hL1:=hL1.ext hE2;cases oa with
 | none =>
  simp only [Option.isSome_none];go_wp2
  go_ret3
  exact ⟨none,0,0,none,0,0,1,rfl,hEw,Or.inr (Or.inr ⟨rfl,rfl⟩)⟩
 | some la =>
  cases ob with
  | none =>
   simp only [Option.isSome_none,Option.isSome_some];go_wp2
   go_ret3
   exact ⟨none,0,0,none,0,0,1,rfl,hEw,Or.inr (Or.inr ⟨rfl,rfl⟩)⟩
  | some lb =>
   simp only [Option.isSome_some,Option.getD_some] at hL1 hL2 ⊢;by_cases hv:va=vb
   · subst hv;go_wp2
     go_ret3
     exact ⟨a1,n1,c1,a2,n2,c2,0,rfl,hEw,Or.inl ⟨la,lb,rfl,rfl,rfl,rfl,hL1,hL2⟩⟩
   · have hvb:(va != vb)=true:=by simpa using hv
     go_wp2
     go_ret3
     exact ⟨none,0,0,none,0,0,4,rfl,hEw,Or.inr (Or.inl ⟨rfl,hv,rfl⟩)⟩
theorem ownK_ne_arr {w:World} {b:Nat} {e t:TypeId} {k n c p:Nat} {a:Option Addr} {rows:List (List Value)} {cs:List Value} (h:OwnK w b e k a n c rows) (hA:Arr w p t cs) (ht:t≠e):blk a≠some p:=by
 rcases h.2.2 with ⟨hv,_⟩|⟨g,cap,cur,hv,_,hh,_⟩
 · simp only [Value.slice.injEq] at hv;rw [hv.1]; simp [blk]
 · simp only [Value.slice.injEq] at hv;rw [hv.1];intro he;have hgp:g=p:=by simpa [blk] using he
   subst hgp;unfold Arr at hA;rw [hh] at hA;simp only [Option.some.injEq,Obj.cells.injEq] at hA;exact ht hA.2.1.symm
theorem TmO.keptA {w w':World} {base R:Nat} {a:Option Addr} {n c:Nat} {ts:List Tx} {cs:List Value} (h:TmO w base a n c ts) (hR:Arr w R 25 cs) (hg:w.grownBy w' (some R)):TmO w' base a n c ts:=by
 obtain ⟨rows,h1,h2,h3⟩:=h;refine ⟨rows,h1.kept hg (Or.inr (ownK_ne_arr h1 hR (by decide))),h2,fun i hi => ?_⟩;obtain ⟨s,a',n',c',e1,e2,e3⟩:=h3 i hi;exact ⟨s,a',n',c',e1,e2,e3.kept hg (Or.inr (own_ne_arr' e3 hR (by decide)))⟩
def NOut (w0:World) (p:List Pl.Tm) (v:Value) (w:World):Prop:=∃ a n c out,v = .slice a n c∧EntO w w0.heap.size a n c out∧Pl.Nrm out∧∀ e,Pl.coef out e=Pl.coef p e
theorem NOut.x (w0:World) (p:List Pl.Tm):StX (NOut w0 p):=fun _ _ _ x ⟨a,n,c,out,h1,h2,h3⟩=>⟨a,n,c,out,h1,h2.ext x,h3⟩
theorem ins_sorted (t:Pl.Tm) (h6:t.1.length=6):∀ (l:List Pl.Tm),(∀ s∈l,s.1.length=6)→Pl.desc l→∃ l',l'.Perm (t :: l)∧Pl.desc l'
 | [],_,_=>⟨[t],List.Perm.refl _,List.pairwise_singleton _ _⟩
 | s :: r,hl,hd=>by
  have hd2:=List.pairwise_cons.1 hd;by_cases h:0≤Pl.ordE t.1 s.1
  · refine ⟨t :: s :: r,List.Perm.refl _,List.pairwise_cons.2 ⟨fun u hu => ?_,hd⟩⟩;rcases List.mem_cons.1 hu with rfl|hu
    · exact h
    · have h1:=hd2.1 u hu;by_cases h2:Pl.ordE t.1 s.1=0
      · rw [Pl.ordE_eq (by rw [h6,hl s (by simp)]) h2]; exact h1
      · by_cases h3:Pl.ordE s.1 u.1=0
        · rw [←Pl.ordE_eq (by rw [hl s (by simp),hl u (by simp [hu])]) h3]; exact h
        · exact Int.le_of_lt (Pl.ordE_trans (b:=s.1) (by omega) (by omega))
  · obtain ⟨l',h1,h2⟩:=ins_sorted t h6 r (fun u hu=>hl u (by simp [hu])) hd2.2;refine ⟨s :: l',(List.Perm.cons s h1).trans (List.Perm.swap t s r),List.pairwise_cons.2 ⟨fun u hu => ?_,h2⟩⟩;rcases List.mem_cons.1 (h1.mem_iff.1 hu) with rfl|hu
    · have:=Pl.ordE_anti s.1 u.1; omega
    · exact hd2.1 u hu
theorem sorted_ex:∀ (l:List Pl.Tm),(∀ s∈l,s.1.length=6)→∃ l',l'.Perm l∧Pl.desc l'
 | [],_=>⟨[],List.Perm.refl _,List.Pairwise.nil⟩
 | t :: r,h=>by
  obtain ⟨l1,h1,h2⟩:=sorted_ex r (fun s hs=>h s (by simp [hs]));obtain ⟨l2,h3,h4⟩:=ins_sorted t (h t (by simp)) l1 (fun s hs=>h s (by simp [h1.mem_iff.1 hs])) h2;exact ⟨l2,h3.trans (List.Perm.cons t h1),h4⟩
noncomputable def cnP (p:List Pl.Tm):List Pl.Tm:=Classical.epsilon (fun l=>Pl.Canon 6 l∧∀ e,Pl.coef l e=Pl.coef p e)
theorem cnP_eq {p l:List Pl.Tm} (h:Pl.Canon 6 l) (hc:∀ e,Pl.coef l e=Pl.coef p e):cnP p=l:=by
 have h1:Pl.Canon 6 (cnP p)∧∀ e,Pl.coef (cnP p) e=Pl.coef p e:=Classical.epsilon_spec (p:=fun l=>Pl.Canon 6 l∧∀ e,Pl.coef l e=Pl.coef p e) ⟨l,h,hc⟩;exact Pl.canon_ext h1.1 h (fun e=>by rw [h1.2,hc])
theorem cnP_sorted {p out l:List Pl.Tm} (hn:Pl.Nrm out) (hc:∀ e,Pl.coef out e=Pl.coef p e) (hp:l.Perm out) (hd:Pl.desc l):cnP p=l:=by
 have hl:=hn.perm hp.symm;exact cnP_eq (Pl.canon_of_sorted hl.len hl.nz hd hl.nodup) (fun e=>by rw [Pl.coef_perm hp,hc])
open Classical in
noncomputable def resQ (vars:Int) (p:List Pl.Tm):Int×List Tx×Int:=if okW (cnP p) then (vars,wrT vars.toNat (cnP p),0) else (0,[],2)
def RetA3 (w:World) (r:Int×List Tx×Int) (e:Ending) (w':World):Prop:=RetP w r.1 r.2.1 r.2.2 e w'
theorem RetWr.q {w0:World} {vars:Nat} {out p:List Pl.Tm} {e:Ending} {w':World} (h:RetWr w0 vars out e w') (hn:Pl.Nrm out) (hc:∀ e,Pl.coef out e=Pl.coef p e):RetA3 w0 (resQ vars p) e w':=by
 obtain ⟨l,h1,h2⟩:=h;unfold resQ RetA3;rcases h2 with ⟨hd,hk,hr⟩|⟨hk,hr⟩
 · rw [cnP_sorted hn hc h1 hd,if_pos hk];exact hr
 · have hnk:¬ okW (cnP p):=by
    rcases hk with hk|⟨hd,hk⟩
    · obtain ⟨l2,h3,h4⟩:=sorted_ex out hn.len;rw [cnP_sorted hn hc h3 h4];intro h5;have:=h5.1;rw [h3.length_eq] at this;omega
    · rw [cnP_sorted hn hc h1 hd]; exact hk
   rw [if_neg hnk];exact hr
section
variable {P:Program} {ops:Array Oper} {hs:List Hd} {a0:Act} {C:World→Prop} {i:Nat} {o:Oper}
theorem obl_callM {p:Value→World→Prop} {cons:Option Nat} (hw:wants hs o=some true)
 (h:∀ ρ w,Plain ρ→C w→opnds ops hs a0 o ρ w o.op.operands.toList→∃ f args,(execOp ρ o).run P w = .ok (.enter f args) w∧Calls P f args w (fun e w'=>∃ u,e = .returned u∧C w'∧keeps ops hs i o w w' (List.range hs.length)∧p u w')) :
 obl P C ops hs a0 i o ⟨true, .pr p,cons⟩:=by
 unfold obl;rw [hw];intro ρ w hp hC hx;obtain ⟨f,args,hr,hc⟩:=h ρ w hp hC hx;rw [hr];exact hc
end
def NPE (w0:World) (r:Int×List Tx×Int) (v:Value) (w:World):Prop:=∃ a n c,v = .tuple #[polyV r.1 a n c, .int .i64 r.2.2]∧TmO w w0.heap.size a n c r.2.1
theorem NPE.x (w0:World) (r:Int×List Tx×Int):StX (NPE w0 r):=fun _ _ _ x ⟨a,n,c,h1,h2⟩=>⟨a,n,c,h1,h2.ext x⟩
def NPo (w0:World) (r:Int×List Tx×Int) (v:Value) (w:World):Prop:=∃ a n c,v=polyV r.1 a n c∧TmO w w0.heap.size a n c r.2.1
theorem NPo.x (w0:World) (r:Int×List Tx×Int):StX (NPo w0 r):=fun _ _ _ x ⟨a,n,c,h1,h2⟩=>⟨a,n,c,h1,h2.ext x⟩
theorem rdP_vars {va:Int} {ta:List Tx} {la:List Pl.Tm} (h:rdP va ta=some la):0≤va∧va≤6:=by
 unfold rdP at h;split at h
 · unfold rdWF at h;split at h
   · rename_i h1; exact ⟨h1.1,h1.2.1⟩
   · cases h
 · cases h
def RetMul (w:World) (va vb:Int) (oa ob:Option (List Pl.Tm)) (e:Ending) (w':World):Prop :=
 (∃ la lb,oa=some la∧ob=some lb∧va=vb∧((¬ (la≠[]∧lb≠[]∧24<degL la+degL lb)∧RetA3 w (resQ va (Pl.prodT la lb)) e w')∨((la≠[]∧lb≠[]∧24<degL la+degL lb)∧RetP w 0 [] 2 e w'))) ∨
 ((oa.isSome && ob.isSome)=true∧va≠vb∧RetP w 0 [] 4 e w')∨((oa.isSome && ob.isSome)=false∧RetP w 0 [] 1 e w')
structure MulOK (la lb:List Pl.Tm):Prop where
 ba:∀ t∈la,Pl.RB 1000 t.2
 bb:∀ t∈lb,Pl.RB 1000 t.2
 ea:smallE la
 eb:smallE lb
 lla:lcmD (la.map (·.2))<P2 256
 llb:lcmD (lb.map (·.2))<P2 256
 na:la.length≤1000000
 nb:lb.length≤1000000
 fits:FitsP (Pl.prodT la lb)
theorem prodT_len (a b:List Pl.Tm):(Pl.prodT a b).length=a.length*b.length:=by
 unfold Pl.prodT
 induction a with
 | nil=>simp
 | cons t r ih=>rw [List.flatMap_cons,List.length_append,ih]; simp [Nat.add_mul]; omega
theorem poly_Mul {va vb:Int} {a b:Option Addr} {n c m d:Nat} {ta tb:List Tx} {w:World} (hT:Tabs w) (ha:TmSl w a n c ta) (hb:TmSl w b m d tb) (sa:∀ t∈ta,t.1.length≤570) (sb:∀ t∈tb,t.1.length≤570)
 (hok:∀ la lb,rdP va ta=some la→rdP vb tb=some lb→va=vb→MulOK la lb) :
 Calls Tryz.prog 16 #[.agg #[.int .i64 va, .slice a n c], .agg #[.int .i64 vb, .slice b m d]] w (RetMul w va vb (rdP va ta) (rdP vb tb)):=by
 have hr2:=fun (wx:World) (hC:Ext w wx)=>qh (poly_readTwo (va:=va) (vb:=vb) (hT.ext hC) (ha.ext hC) (hb.ext hC) sa sb);have hvr:∀ la,rdP va ta=some la→0≤va∧va≤6:=fun la h=>rdP_vars h;obtain ⟨oa,hoa⟩:∃ o,rdP va ta=o:=⟨_,rfl⟩;obtain ⟨ob,hob⟩:∃ o,rdP vb tb=o:=⟨_,rfl⟩;rw [hoa] at hr2 hok hvr ⊢;rw [hob] at hr2 hok ⊢;have HOK:=qh hok;clear hoa hob sa sb ha hb hok
 go_enter Tryz.func16,Tryz.ntmps16
 go_upto_region 1 with (fail)
 refine box3 ?_;intro w0 hE0 hB0 hB1 hB2 hz0;have p00:=hB0.c 0 rfl;have p01:=hB0.c 1 rfl;have p10:=hB1.c 0 rfl;have p11:=hB1.c 1 rfl;have hR:Arr w0 (w.heap.size+2) 25 (polyL 0 none 0 0):=hB2;have hpz:(polyL 0 none 0 0).toArray=#[.int .i64 0, .slice none 0 0]:=rfl;clear hB0 hB1 hB2 hz0
 go_wp2_with fail
 refine (hr2 _ hE0).out.mono ?_;rintro e w1 ⟨a1,n1,c1,b1,m1,d1,err,rfl,hE1,hcase⟩;have hEw:=hE0.trans hE1;have hR1:=hR.ext hE1;have p00:=hE1.cell p00;have hsz:=hE0.size;clear hr2 p01 p10 p11;rcases hcase with ⟨la,lb,rfl,rfl,hv,rfl,hLa,hLb⟩|⟨hs,hv,rfl⟩|⟨hs,rfl⟩
 · have hM:=HOK.out la lb rfl rfl hv;have hva:=hvr la rfl;have hln:=hLa.len;have hlm:=hLb.len;have HLN:=qh (And.intro hln hlm);have HM:=qh hM;clear HOK hvr;obtain ⟨vn,rfl⟩:∃ k:Nat,va=(k:Int):=⟨va.toNat,by omega⟩;have HV:=qh hv;clear hv;have hprod:=fun (wx:World) (hC:Ext w1 wx)=>qh (poly_product ((hT.ext hEw).ext hC) (hLa.ext hC) (hLb.ext hC) HM.out.ba HM.out.bb HM.out.ea HM.out.eb (by have:=HM.out.na; omega) (by have:=HM.out.nb; omega) (by have:=HM.out.fits.len; rw [prodT_len] at this; rw [←hln,←hlm]; exact this) HM.out.lla HM.out.llb)
   have hda:=fun (wx:World) (hC:Ext w1 wx)=>qh (poly_degree (hLa.ext hC) HM.out.ea);have hdb:=fun (wx:World) (hC:Ext w1 wx)=>qh (poly_degree (hLb.ext hC) HM.out.eb);have hdba:=degL_bnd hM.ea;have hdbb:=degL_bnd hM.eb;have hn1:n1=0↔la=[]:=by rw [←hln]; exact List.length_eq_zero_iff
   have hm1:m1=0↔lb=[]:=by rw [←hlm]; exact List.length_eq_zero_iff
   clear hM;have hnn:n1≤1000000:=by have:=HM.out.na; omega
   have hmm:m1≤1000000:=by have:=HM.out.nb; omega
   clear hln hlm;by_cases h0:n1=0∨m1=0
   · have HND:Hid (¬ (la≠[]∧lb≠[]∧24<degL la+degL lb)):=qh (fun ⟨x,y,_⟩=>h0.elim (fun h=>x (hn1.1 h)) (fun h=>y (hm1.1 h)));have hcond:(n1=0)∨(0<n1∧m1=0):=by omega
     clear h0 hn1 hm1;rcases hcond with h0|⟨h0,h0'⟩
     · have hc1:¬ ((0:Int)<(n1:Int)):=by omega
       clear h0;go_wp2;obtain ⟨rr,HRR⟩:∃ r,Hid (resQ (vn:Int) (Pl.prodT la lb)=r):=⟨_,qh rfl⟩
       refine wp_region_typed2 (by kernel_rfl) (fun wx=>Ext w1 wx)
        [he (.pointer (some ⟨w.heap.size,0,none⟩)),
 he (.int .i64 (vn:Int)),
 he (.slice a1 n1 c1),
 he (.slice b1 m1 d1),
 hu 5 (fun v wx=>NOut w1 (Pl.prodT la lb) v wx),
 hmp (fun v wx=>NPE w1 rr v wx),
 hp (fun v wx=>NPo w1 rr v wx),
 he (.int .i64 rr.2.2)]
        (by kernel_rfl) (fun _ _ e h=>h.trans e) ((Ext.refl w1).drew) ⟨trivial,trivial,trivial,trivial,NOut.x _ _,NPE.x _ _,NPo.x _ _,trivial,trivial⟩ ⟨?o0, ?o1, ?o2, ?o3, ?o4, ?o5, ?o6, ?o7,trivial⟩ ?fin
       case o0=>exact ofa (d:=0) rfl rfl (fun _ _=>id) (by kernel_rfl) rfl
       case o1=>exact ol rfl rfl (fun _ _=>id) (by kernel_rfl) (by assumption)
       case o2=>exact omv rfl rfl (fun _ _=>id)
       case o3=>exact omv rfl rfl (fun _ _=>id)
       case o4 =>
        refine obl_cq rfl fun ρ wx hC hcst hfn h => ?_;have e0:ρ (.tmp 39)=(.slice a1 n1 c1):=h.2.1;have e1:ρ (.tmp 40)=(.slice b1 m1 d1):=h.2.2.1;refine ⟨46,#[.slice a1 n1 c1, .slice b1 m1 d1],by go_simp,((hprod wx hC).out).mono ?_⟩;rintro e w' ⟨out,⟨a7,n7,c7,rfl,hE7,hO7⟩,h1,h2⟩;exact ⟨_,rfl,hE7,a7,n7,c7,out,rfl,hO7.mono hC.size,h1,h2⟩
       case o5 =>
        refine obl_callM rfl ?_;intro ρ wx hp hC h;have hcst:=hp.const;have hfn:=hp.func;have e0:ρ (.tmp 38)=(.int .i64 (vn:Int)):=h.2.1;obtain ⟨v1,e1,a1',n1',c1',o1',rfl,f1',g1',h1'⟩:=h.2.2.1;have hfo:=HM.out.fits.out g1' h1';have hlo:=f1'.len;refine ⟨45,#[.int .i64 (vn:Int), .slice a1' n1' c1'],by go_simp,(poly_write (vars:=vn) (w0:=w1) (hT.ext hEw) hC f1' (by omega) hfo.1 hfo.2.1 (by omega)).mono ?_⟩;intro e w' hw;have hq:=RetWr.q hw g1' h1';rw [HRR.out] at hq;obtain ⟨a7,n7,c7,rfl,hE7,hO7⟩:=hq
        exact ⟨_,rfl,hE7,⟨trivial,trivial,trivial,trivial,trivial,trivial,trivial,trivial,trivial⟩,a7,n7,c7,rfl,hO7⟩
       case o6 =>
        refine obl_ext rfl ?_;intro ρ wx hp hC h;obtain ⟨v0,e0,a0',n0',c0',rfl,f0'⟩:=h.1;exact ⟨polyV rr.1 a0' n0' c0',wx,by go_simp,Ext.refl _,a0',n0',c0',rfl,f0'⟩
       case o7 =>
        refine obl_pure rfl ?_;intro ρ wx hp hC h;obtain ⟨v0,e0,a0',n0',c0',rfl,f0'⟩:=h.1;go_simp
       case fin =>
        intro wx hC;rintro _;rintro _ h42;rintro _ h43;change wpList _ _ _ _ _ _;simp only [List.length_cons,List.length_nil,List.drop_succ_cons,List.drop_zero,Act.put,List.setIfInBounds_toArray,List.set_cons_succ,List.set_cons_zero];obtain ⟨a7,n7,c7,rfl,hO7⟩:=h43;clear h42;have hEx:=hEw.trans hC;have hRx:=hR1.ext hC;have hpv:polyV rr.1 a7 n7 c7 = .agg #[.int .i64 rr.1, .slice a7 n7 c7]:=rfl;rw [hpv];have hpl:(polyL rr.1 a7 n7 c7).toArray=#[.int .i64 rr.1, .slice a7 n7 c7]:=rfl
        go_wp2_with (refine wl_stArr (vs:=polyL rr.1 a7 n7 c7) rfl rfl rfl rfl rfl agg_Poly hRx rfl (polyL_one _ _ _ _) ?_; intro w8 hB8 hg8)
        refine bodyPost_ret (res_ct rfl agg_Poly rfl rfl hB8) rfl ?_;exact Or.inl ⟨la,lb,rfl,rfl,HV.out,Or.inl ⟨HND.out,by rw [HRR.out]; exact ⟨a7,n7,c7,rfl,hEx.grownR hg8 (by omega),(hO7.mono hEw.size).keptA hRx hg8⟩⟩⟩
     · have hc1:(0:Int)<(n1:Int):=by omega
       have hc2:¬ ((0:Int)<(m1:Int)):=by omega
       clear h0 h0';go_wp2;obtain ⟨rr,HRR⟩:∃ r,Hid (resQ (vn:Int) (Pl.prodT la lb)=r):=⟨_,qh rfl⟩
       refine wp_region_typed2 (by kernel_rfl) (fun wx=>Ext w1 wx)
        [he (.pointer (some ⟨w.heap.size,0,none⟩)),
 he (.int .i64 (vn:Int)),
 he (.slice a1 n1 c1),
 he (.slice b1 m1 d1),
 hu 5 (fun v wx=>NOut w1 (Pl.prodT la lb) v wx),
 hmp (fun v wx=>NPE w1 rr v wx),
 hp (fun v wx=>NPo w1 rr v wx),
 he (.int .i64 rr.2.2)]
        (by kernel_rfl) (fun _ _ e h=>h.trans e) ((Ext.refl w1).drew) ⟨trivial,trivial,trivial,trivial,NOut.x _ _,NPE.x _ _,NPo.x _ _,trivial,trivial⟩ ⟨?o0, ?o1, ?o2, ?o3, ?o4, ?o5, ?o6, ?o7,trivial⟩ ?fin
       case o0=>exact ofa (d:=0) rfl rfl (fun _ _=>id) (by kernel_rfl) rfl
       case o1=>exact ol rfl rfl (fun _ _=>id) (by kernel_rfl) (by assumption)
       case o2=>exact omv rfl rfl (fun _ _=>id)
       case o3=>exact omv rfl rfl (fun _ _=>id)
       case o4 =>
        refine obl_cq rfl fun ρ wx hC hcst hfn h => ?_;have e0:ρ (.tmp 39)=(.slice a1 n1 c1):=h.2.1;have e1:ρ (.tmp 40)=(.slice b1 m1 d1):=h.2.2.1;refine ⟨46,#[.slice a1 n1 c1, .slice b1 m1 d1],by go_simp,((hprod wx hC).out).mono ?_⟩;rintro e w' ⟨out,⟨a7,n7,c7,rfl,hE7,hO7⟩,h1,h2⟩;exact ⟨_,rfl,hE7,a7,n7,c7,out,rfl,hO7.mono hC.size,h1,h2⟩
       case o5 =>
        refine obl_callM rfl ?_;intro ρ wx hp hC h;have hcst:=hp.const;have hfn:=hp.func;have e0:ρ (.tmp 38)=(.int .i64 (vn:Int)):=h.2.1;obtain ⟨v1,e1,a1',n1',c1',o1',rfl,f1',g1',h1'⟩:=h.2.2.1;have hfo:=HM.out.fits.out g1' h1';have hlo:=f1'.len;refine ⟨45,#[.int .i64 (vn:Int), .slice a1' n1' c1'],by go_simp,(poly_write (vars:=vn) (w0:=w1) (hT.ext hEw) hC f1' (by omega) hfo.1 hfo.2.1 (by omega)).mono ?_⟩;intro e w' hw;have hq:=RetWr.q hw g1' h1';rw [HRR.out] at hq;obtain ⟨a7,n7,c7,rfl,hE7,hO7⟩:=hq
        exact ⟨_,rfl,hE7,⟨trivial,trivial,trivial,trivial,trivial,trivial,trivial,trivial,trivial⟩,a7,n7,c7,rfl,hO7⟩
       case o6 =>
        refine obl_ext rfl ?_;intro ρ wx hp hC h;obtain ⟨v0,e0,a0',n0',c0',rfl,f0'⟩:=h.1;exact ⟨polyV rr.1 a0' n0' c0',wx,by go_simp,Ext.refl _,a0',n0',c0',rfl,f0'⟩
       case o7 =>
        refine obl_pure rfl ?_;intro ρ wx hp hC h;obtain ⟨v0,e0,a0',n0',c0',rfl,f0'⟩:=h.1;go_simp
       case fin =>
        intro wx hC;rintro _;rintro _ h42;rintro _ h43;change wpList _ _ _ _ _ _;simp only [List.length_cons,List.length_nil,List.drop_succ_cons,List.drop_zero,Act.put,List.setIfInBounds_toArray,List.set_cons_succ,List.set_cons_zero];obtain ⟨a7,n7,c7,rfl,hO7⟩:=h43;clear h42;have hEx:=hEw.trans hC;have hRx:=hR1.ext hC;have hpv:polyV rr.1 a7 n7 c7 = .agg #[.int .i64 rr.1, .slice a7 n7 c7]:=rfl;rw [hpv];have hpl:(polyL rr.1 a7 n7 c7).toArray=#[.int .i64 rr.1, .slice a7 n7 c7]:=rfl
        go_wp2_with (refine wl_stArr (vs:=polyL rr.1 a7 n7 c7) rfl rfl rfl rfl rfl agg_Poly hRx rfl (polyL_one _ _ _ _) ?_; intro w8 hB8 hg8)
        refine bodyPost_ret (res_ct rfl agg_Poly rfl rfl hB8) rfl ?_;exact Or.inl ⟨la,lb,rfl,rfl,HV.out,Or.inl ⟨HND.out,by rw [HRR.out]; exact ⟨a7,n7,c7,rfl,hEx.grownR hg8 (by omega),(hO7.mono hEw.size).keptA hRx hg8⟩⟩⟩
   · have hc1:(0:Int)<(n1:Int):=by omega
     have hc2:(0:Int)<(m1:Int):=by omega
     have HNE:Hid (la≠[]∧lb≠[]):=qh ⟨fun h=>h0 (Or.inl (hn1.2 h)),fun h=>h0 (Or.inr (hm1.2 h))⟩;clear h0 hn1 hm1;generalize hdA:degL la=dA at *
     generalize hdB:degL lb=dB at *
     go_wp2_with fail
     refine (hda _ (Ext.refl _)).out.mono ?_;rintro e w2 ⟨rfl,hE2⟩
     go_wp2_with fail
     refine (hdb _ hE2).out.mono ?_;rintro e w3 ⟨rfl,hE3⟩;have hE13:=hE2.trans hE3;have hEw:=hEw.trans hE13;have hR1:=hR1.ext hE13;have p00:=hE13.cell p00;have hprod:=fun (wx:World) (hC:Ext w3 wx)=>hprod wx (hE13.trans hC);have hwr:IntKind.i64.wrap (dA+dB)=dA+dB:=IntWalk.i64_in _ (by omega);obtain ⟨w1',rfl⟩:∃ x:World,x=w1:=⟨_,rfl⟩;obtain ⟨w1,rfl⟩:∃ x:World,x=w3:=⟨_,rfl⟩;clear hda hdb hE2 hE3 hLa hLb hE1;by_cases hbig:24<dA+dB
     · go_wp2_with (refine wl_stArr (vs:=polyL 0 none 0 0) rfl rfl rfl rfl rfl agg_Poly hR1 rfl (polyL_one _ _ _ _) ?_; intro w9 hB9 hg9)
       refine bodyPost_ret (res_ct rfl agg_Poly rfl rfl hB9) rfl ?_;exact Or.inl ⟨la,lb,rfl,rfl,HV.out,Or.inr ⟨⟨HNE.out.1,HNE.out.2,by rw [hdA,hdB]; exact hbig⟩,none,0,0,rfl,hEw.grownR hg9 (by omega),TmO.nil _ _⟩⟩
     · have HND:Hid (¬ (la≠[]∧lb≠[]∧24<degL la+degL lb)):=qh (fun ⟨_,_,h⟩=>hbig (by rw [←hdA,←hdB]; exact h));go_wp2;obtain ⟨rr,HRR⟩:∃ r,Hid (resQ (vn:Int) (Pl.prodT la lb)=r):=⟨_,qh rfl⟩
       refine wp_region_typed2 (by kernel_rfl) (fun wx=>Ext w1 wx)
        [he (.pointer (some ⟨w.heap.size,0,none⟩)),
 he (.int .i64 (vn:Int)),
 he (.slice a1 n1 c1),
 he (.slice b1 m1 d1),
 hu 5 (fun v wx=>NOut w1 (Pl.prodT la lb) v wx),
 hmp (fun v wx=>NPE w1 rr v wx),
 hp (fun v wx=>NPo w1 rr v wx),
 he (.int .i64 rr.2.2)]
        (by kernel_rfl) (fun _ _ e h=>h.trans e) ((Ext.refl w1).drew) ⟨trivial,trivial,trivial,trivial,NOut.x _ _,NPE.x _ _,NPo.x _ _,trivial,trivial⟩ ⟨?o0, ?o1, ?o2, ?o3, ?o4, ?o5, ?o6, ?o7,trivial⟩ ?fin
       case o0=>exact ofa (d:=0) rfl rfl (fun _ _=>id) (by kernel_rfl) rfl
       case o1=>exact ol rfl rfl (fun _ _=>id) (by kernel_rfl) (by assumption)
       case o2=>exact omv rfl rfl (fun _ _=>id)
       case o3=>exact omv rfl rfl (fun _ _=>id)
       case o4 =>
        refine obl_cq rfl fun ρ wx hC hcst hfn h => ?_;have e0:ρ (.tmp 39)=(.slice a1 n1 c1):=h.2.1;have e1:ρ (.tmp 40)=(.slice b1 m1 d1):=h.2.2.1;refine ⟨46,#[.slice a1 n1 c1, .slice b1 m1 d1],by go_simp,((hprod wx hC).out).mono ?_⟩;rintro e w' ⟨out,⟨a7,n7,c7,rfl,hE7,hO7⟩,h1,h2⟩;exact ⟨_,rfl,hE7,a7,n7,c7,out,rfl,hO7.mono hC.size,h1,h2⟩
       case o5 =>
        refine obl_callM rfl ?_;intro ρ wx hp hC h;have hcst:=hp.const;have hfn:=hp.func;have e0:ρ (.tmp 38)=(.int .i64 (vn:Int)):=h.2.1;obtain ⟨v1,e1,a1',n1',c1',o1',rfl,f1',g1',h1'⟩:=h.2.2.1;have hfo:=HM.out.fits.out g1' h1';have hlo:=f1'.len;refine ⟨45,#[.int .i64 (vn:Int), .slice a1' n1' c1'],by go_simp,(poly_write (vars:=vn) (w0:=w1) (hT.ext hEw) hC f1' (by omega) hfo.1 hfo.2.1 (by omega)).mono ?_⟩;intro e w' hw;have hq:=RetWr.q hw g1' h1';rw [HRR.out] at hq;obtain ⟨a7,n7,c7,rfl,hE7,hO7⟩:=hq
        exact ⟨_,rfl,hE7,⟨trivial,trivial,trivial,trivial,trivial,trivial,trivial,trivial,trivial⟩,a7,n7,c7,rfl,hO7⟩
       case o6 =>
        refine obl_ext rfl ?_;intro ρ wx hp hC h;obtain ⟨v0,e0,a0',n0',c0',rfl,f0'⟩:=h.1;exact ⟨polyV rr.1 a0' n0' c0',wx,by go_simp,Ext.refl _,a0',n0',c0',rfl,f0'⟩
       case o7 =>
        refine obl_pure rfl ?_;intro ρ wx hp hC h;obtain ⟨v0,e0,a0',n0',c0',rfl,f0'⟩:=h.1;go_simp
       case fin =>
        intro wx hC;rintro _;rintro _ h42;rintro _ h43;change wpList _ _ _ _ _ _;simp only [List.length_cons,List.length_nil,List.drop_succ_cons,List.drop_zero,Act.put,List.setIfInBounds_toArray,List.set_cons_succ,List.set_cons_zero];obtain ⟨a7,n7,c7,rfl,hO7⟩:=h43;clear h42;have hEx:=hEw.trans hC;have hRx:=hR1.ext hC;have hpv:polyV rr.1 a7 n7 c7 = .agg #[.int .i64 rr.1, .slice a7 n7 c7]:=rfl;rw [hpv];have hpl:(polyL rr.1 a7 n7 c7).toArray=#[.int .i64 rr.1, .slice a7 n7 c7]:=rfl
        go_wp2_with (refine wl_stArr (vs:=polyL rr.1 a7 n7 c7) rfl rfl rfl rfl rfl agg_Poly hRx rfl (polyL_one _ _ _ _) ?_; intro w8 hB8 hg8)
        refine bodyPost_ret (res_ct rfl agg_Poly rfl rfl hB8) rfl ?_;exact Or.inl ⟨la,lb,rfl,rfl,HV.out,Or.inl ⟨HND.out,by rw [HRR.out]; exact ⟨a7,n7,c7,rfl,hEx.grownR hg8 (by omega),(hO7.mono hEw.size).keptA hRx hg8⟩⟩⟩
 · go_wp2_with (refine wl_stArr (vs:=polyL 0 none 0 0) rfl rfl rfl rfl rfl agg_Poly hR1 rfl (polyL_one _ _ _ _) ?_; intro w9 hB9 hg9)
   refine bodyPost_ret (res_ct rfl agg_Poly rfl rfl hB9) rfl ?_;exact Or.inr (Or.inl ⟨hs,hv,none,0,0,rfl,hEw.grownR hg9 (by omega),TmO.nil _ _⟩)
 · go_wp2_with (refine wl_stArr (vs:=polyL 0 none 0 0) rfl rfl rfl rfl rfl agg_Poly hR1 rfl (polyL_one _ _ _ _) ?_; intro w9 hB9 hg9)
   refine bodyPost_ret (res_ct rfl agg_Poly rfl rfl hB9) rfl ?_;exact Or.inr (Or.inr ⟨hs,none,0,0,rfl,hEw.grownR hg9 (by omega),TmO.nil _ _⟩)
theorem retP_end {w wb w7 w8:World} {r:Int×List Tx×Int} {R:Nat} {cs:List Value} {a:Option Addr} {n c:Nat} (hE:Ext w wb) (hE7:Ext wb w7) (hO:TmO w7 wb.heap.size a n c r.2.1) (hR:Arr w7 R 25 cs) (hg:w7.grownBy w8 (some R)) (hw:w.heap.size≤R):RetA3 w r (.returned (.tuple #[polyV r.1 a n c, .int .i64 r.2.2])) w8 :=
 ⟨a,n,c,rfl,(hE.trans hE7).grownR hg hw,(hO.mono hE.size).keptA hR hg⟩
end Go.Proofs.YtlpgonpfjbhmfaaGreatDoor
