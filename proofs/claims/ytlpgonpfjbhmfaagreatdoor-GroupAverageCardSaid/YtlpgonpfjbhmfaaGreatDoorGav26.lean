/- Part Gav26. -/
import Derived.Test.YtlpgonpfjbhmfaaGreatDoorGav25
import Derived.Test.YtlpgonpfjbhmfaaGreatDoorGav23
set_option maxRecDepth 100000
set_option maxHeartbeats 100000000
namespace Go.Proofs.YtlpgonpfjbhmfaaGreatDoor
open Tryz Go Go.RowKit
variable {f:Act} {ad:Addr} {ops:Array Oper} {Q:Exit→Act→World→Prop} {news rows:List (List Value)} {rest:List Oper} {L vs zs:List Value} {base' bytes c cx k m n:Nat} {o:Oper} {l s y:Operand} {a:Option Addr} {q:Rat} {e t ty:TypeId} {v v':Value} {w w':World}
def NR (q:Rat) (v:Value) (w:World):Prop:=∃ cs,v = .agg cs.toArray∧DD w cs q
theorem NR.x (q:Rat):StX (NR q):=fun _ _ _ e ⟨cs,h1,h2⟩=>⟨cs,h1,h2.ext e⟩
theorem Nq (h:BB w v q):Calls prog 63 #[v] w (F4 w q⁻¹):=by
 have hdn:=fun (wx:World) (hC:Ext w wx)=>qh (GU (h.ext hC));obtain ⟨_,rfl,s,a,n,c,b,m,d,rfl,HS,hx,hy⟩:=h;have hsg:=fun (wx:World) (hC:Ext w wx)=>qh (M7 (r:=q.num.sign) (AX HS (hx.ext hC)) rfl);have hnn:=fun (wx:World) (hC:Ext w wx)=>qh (L5 (AX HS (hx.ext hC)));have hnx:=fun (wx:World) (hC:Ext w wx)=>AX HS (hx.ext hC)
 go_enter func63,ntmps63
 go_upto_region 1 with (fail)
 refine F0 ?_;intro w0 hE0 hB0 hB1 hz0;have p0:=hB0.c 0 rfl;have p1:=hB0.c 1 rfl;have p2:=hB0.c 2 rfl;have p3:=hB0.c 3 rfl;have hR:Arr w0 (w.heap.size+1) 97 (An false none 0 0 false none 0 0):=hB1;clear hz0
 go_wp2_with fail
 refine (hsg _ hE0).out.mono ?_;rintro e w1 ⟨rfl,hE1⟩;have hEw:=hE0.trans hE1;have hRw:=hR.ext hE1;have r0:=hE1.cell p0;have r1:=hE1.cell p1;have r2:=hE1.cell p2;have r3:=hE1.cell p3;clear p0 p1 p2 p3;rcases Int.lt_trichotomy q.num 0 with hz|hz|hz
 · have HI:=qh (Pl.rat_inv_neg hz);rw [Int.sign_eq_neg_one_of_neg hz];have hab : -q.num=((q.num.natAbs:Nat):Int):=by omega
   rw [hab] at hnn;rw [←HI.out.2] at hnn;clear hz hab;go_wp2;have HF1:=fun (wx:World) (hC:Ext w1 wx)=>qh (And.intro (hC.cell r0) (And.intro (hC.cell r1) (And.intro (hC.cell r2) (hC.cell r3))))
   refine Af (by kernel_rfl) (fun wx=>Ext w1 wx)
    [he (.agg #[.bool s, .slice a n c, .bool false, .slice b m d]),
 hp (fun v wx=>NI ((q.den:Int)) v wx),
 hp (fun v wx=>NI (-(q.den:Int)) v wx),
 he (.pointer (some ⟨w.heap.size,0,none⟩)),
 he (.agg #[.bool s, .slice a n c]),
 hp (fun v wx=>NI (((q⁻¹).den:Int)) v wx),
 hp (fun v wx=>NR (q⁻¹) v wx)]
    (by kernel_rfl) (fun _ _ e h=>h.trans e) ((Ext.refl w1).drew) ⟨trivial,NI.x _,NI.x _,trivial,trivial,NI.x _,NR.x _,trivial⟩ ⟨?o0, ?o1, ?o2, ?o3, ?o4, ?o5, ?o6,trivial⟩ ?fin
   case o0=>exact ol4 rfl rfl (fun _ _=>id) ⟨by kernel_rfl,by kernel_rfl⟩ (by assumption) (by assumption) (by assumption) (by assumption)
   case o1 =>
    refine Aj rfl fun ρ wx hC hcst hfn h => ?_;have e1:ρ (.tmp 11)=(.agg #[.bool s, .slice a n c, .bool false, .slice b m d]):=h.2.1;obtain ⟨kx0,kx1,kx2,kx3⟩:=(HF1 wx hC).out;refine ⟨99,#[.agg #[.bool s, .slice a n c, .bool false, .slice b m d]],by go_simp,((hdn wx (hEw.trans hC)).out).mono ?_⟩;rintro e w' ⟨s',a',n',c',rfl,hE',hs',hn'⟩;exact ⟨_,rfl,hE',s',a',n',c',rfl,hs',hn'⟩
   case o2 =>
    refine Aj rfl fun ρ wx hC hcst hfn h => ?_;obtain ⟨v1,e1,s1,a1,n1,c1,rfl,i1,j1⟩:=h.2.1;obtain ⟨kx0,kx1,kx2,kx3⟩:=(HF1 wx hC).out;refine ⟨117,#[.agg (Ab s1 a1 n1 c1).toArray],by go_simp,(L5 ⟨s1,a1,n1,c1,rfl,i1,j1⟩).mono ?_⟩;rintro e w' ⟨s',a',n',c',rfl,hE',hs',hn'⟩;exact ⟨_,rfl,hE',s',a',n',c',rfl,hs',hn'⟩
   case o3=>exact ofa (d:=0) rfl rfl (fun _ _=>id) (by kernel_rfl) rfl
   case o4=>exact ol2 rfl rfl (fun _ _=>id) ⟨by kernel_rfl,by kernel_rfl⟩ (by assumption) (by assumption)
   case o5 =>
    refine Aj rfl fun ρ wx hC hcst hfn h => ?_;have e1:ρ (.tmp 15)=(.agg #[.bool s, .slice a n c]):=h.2.1;obtain ⟨kx0,kx1,kx2,kx3⟩:=(HF1 wx hC).out;refine ⟨117,#[.agg #[.bool s, .slice a n c]],by go_simp,((hnn wx (hEw.trans hC)).out).mono ?_⟩;rintro e w' ⟨s',a',n',c',rfl,hE',hs',hn'⟩;exact ⟨_,rfl,hE',s',a',n',c',rfl,hs',hn'⟩
   case o6 =>
    refine Aj rfl fun ρ wx hC hcst hfn h => ?_;obtain ⟨v1,e1,s1,a1,n1,c1,rfl,i1,j1⟩:=h.2.1;obtain ⟨v2,e2,s2,a2,n2,c2,rfl,i2,j2⟩:=h.2.2.1;obtain ⟨kx0,kx1,kx2,kx3⟩:=(HF1 wx hC).out;refine ⟨115,#[.agg (Ab s1 a1 n1 c1).toArray, .agg (Ab s2 a2 n2 c2).toArray],by go_simp,(CF (q:=q⁻¹) (by rw [HI.out.1]; exact ⟨s1,a1,n1,c1,rfl,i1,j1⟩) ⟨s2,a2,n2,c2,rfl,i2,j2⟩).mono ?_⟩;rintro e w' ⟨cs,rfl,hE',hr'⟩;exact ⟨_,rfl,hE',cs,rfl,hr'⟩
   case fin =>
    intro wx hC;rintro _ ⟨s91,a91,n91,c91,rfl,HS91,hx91⟩;rintro _ ⟨s92,a92,n92,c92,rfl,HS92,hx92⟩;rintro _ ⟨s93,a93,n93,c93,rfl,HS93,hx93⟩;rintro _ ⟨_,rfl,s9,a9,n9,c9,b9,m9,d9,rfl,HS9,hx9,hy9⟩;change wpList _ _ _ _ _ _;simp only [List.length_cons,List.length_nil,List.drop_succ_cons,List.drop_zero,Act.put,List.setIfInBounds_toArray,List.set_cons_succ,List.set_cons_zero];have hR1:=hRw.ext hC;have hl9:(An s9 a9 n9 c9 false b9 m9 d9).toArray=#[.bool s9, .slice a9 n9 c9, .bool false, .slice b9 m9 d9]:=rfl
    go_wp2_with (refine Aa (vs:=An s9 a9 n9 c9 false b9 m9 d9) rfl rfl rfl rfl rfl Ac hR1 rfl (Ap _ _ _ _ _ _ _ _) ?_; intro w9 hB9 hg9)
    exact bodyPost_ret (Al rfl Ac rfl hB9) rfl (Bf (hEw.trans hC) hR1 (AC _ _ _ _ _ _ _ _) hg9 (by omega) HS9 hx9 hy9)
 · have HI:Hid (q⁻¹=0):=qh (by rw [Pl.rat_num_den_zero.1 hz]; exact Pl.rat_inv_zero);rw [hz];have hs0:Int.sign 0=0:=rfl;rw [hs0];clear hz hs0
   go_wp2_with (refine Aa (vs:=An false none 0 0 false none 0 0) rfl rfl rfl rfl rfl Ac hRw rfl (Ap _ _ _ _ _ _ _ _) ?_; intro w9 hB9 hg9)
   refine bodyPost_ret (Al rfl Ac rfl hB9) rfl ?_;rw [HI.out];exact Bf hEw hRw (AC _ _ _ _ _ _ _ _) hg9 (by omega) (qh rfl) (Wd.nil _) (Wd.nil _)
 · have HI:=qh (Pl.rat_inv_pos hz);rw [Int.sign_eq_one_of_pos hz];have hab:q.num=((q.num.natAbs:Nat):Int):=by omega
   have hnx':∀ (wx:World),Ext w wx→Ax wx (.agg (Ab s a n c).toArray) ((q⁻¹).den:Int):=by
    intro wx hC;rw [HI.out.2,←hab];exact hnx wx hC
   clear hz hab;go_wp2;have HF2:=fun (wx:World) (hC:Ext w1 wx)=>qh (And.intro (hC.cell r0) (And.intro (hC.cell r1) (And.intro (hC.cell r2) (hC.cell r3))))
   refine Af (by kernel_rfl) (fun wx=>Ext w1 wx)
    [he (.agg #[.bool s, .slice a n c, .bool false, .slice b m d]),
 hp (fun v wx=>NI ((q.den:Int)) v wx),
 he (.pointer (some ⟨w.heap.size,0,none⟩)),
 he (.agg #[.bool s, .slice a n c]),
 hp (fun v wx=>NR (q⁻¹) v wx)]
    (by kernel_rfl) (fun _ _ e h=>h.trans e) ((Ext.refl w1).drew) ⟨trivial,NI.x _,trivial,trivial,NR.x _,trivial⟩ ⟨?o0, ?o1, ?o2, ?o3, ?o4,trivial⟩ ?fin
   case o0=>exact ol4 rfl rfl (fun _ _=>id) ⟨by kernel_rfl,by kernel_rfl⟩ (by assumption) (by assumption) (by assumption) (by assumption)
   case o1 =>
    refine Aj rfl fun ρ wx hC hcst hfn h => ?_;have e1:ρ (.tmp 18)=(.agg #[.bool s, .slice a n c, .bool false, .slice b m d]):=h.2.1;obtain ⟨kx0,kx1,kx2,kx3⟩:=(HF2 wx hC).out;refine ⟨99,#[.agg #[.bool s, .slice a n c, .bool false, .slice b m d]],by go_simp,((hdn wx (hEw.trans hC)).out).mono ?_⟩;rintro e w' ⟨s',a',n',c',rfl,hE',hs',hn'⟩;exact ⟨_,rfl,hE',s',a',n',c',rfl,hs',hn'⟩
   case o2=>exact ofa (d:=0) rfl rfl (fun _ _=>id) (by kernel_rfl) rfl
   case o3=>exact ol2 rfl rfl (fun _ _=>id) ⟨by kernel_rfl,by kernel_rfl⟩ (by assumption) (by assumption)
   case o4 =>
    refine Aj rfl fun ρ wx hC hcst hfn h => ?_;obtain ⟨v1,e1,s1,a1,n1,c1,rfl,i1,j1⟩:=h.2.1;have e2:ρ (.tmp 21)=(.agg #[.bool s, .slice a n c]):=h.2.2.1;obtain ⟨kx0,kx1,kx2,kx3⟩:=(HF2 wx hC).out;refine ⟨115,#[.agg (Ab s1 a1 n1 c1).toArray, .agg #[.bool s, .slice a n c]],by go_simp,(CF (q:=q⁻¹) (by rw [HI.out.1]; exact ⟨s1,a1,n1,c1,rfl,i1,j1⟩) (hnx' wx (hEw.trans hC))).mono ?_⟩;rintro e w' ⟨cs,rfl,hE',hr'⟩;exact ⟨_,rfl,hE',cs,rfl,hr'⟩
   case fin =>
    intro wx hC;rintro _ ⟨s91,a91,n91,c91,rfl,HS91,hx91⟩;rintro _ ⟨_,rfl,s9,a9,n9,c9,b9,m9,d9,rfl,HS9,hx9,hy9⟩;change wpList _ _ _ _ _ _;simp only [List.length_cons,List.length_nil,List.drop_succ_cons,List.drop_zero,Act.put,List.setIfInBounds_toArray,List.set_cons_succ,List.set_cons_zero];have hR1:=hRw.ext hC;have hl9:(An s9 a9 n9 c9 false b9 m9 d9).toArray=#[.bool s9, .slice a9 n9 c9, .bool false, .slice b9 m9 d9]:=rfl
    go_wp2_with (refine Aa (vs:=An s9 a9 n9 c9 false b9 m9 d9) rfl rfl rfl rfl rfl Ac hR1 rfl (Ap _ _ _ _ _ _ _ _) ?_; intro w9 hB9 hg9)
    exact bodyPost_ret (Al rfl Ac rfl hB9) rfl (Bf (hEw.trans hC) hR1 (AC _ _ _ _ _ _ _ _) hg9 (by omega) HS9 hx9 hy9)
def Wp (S:Nat→Prop) (v:Value):Prop:=∀ s a n c b m d,v = .agg (An s a n c false b m d).toArray→0<n→∀ g,blk a=some g→S g
theorem Nr {S:Nat→Prop} (h:BB w v q) (h':Ax w v' (k:Int)) (b1:q.num.natAbs<P2 2400) (b2:q.den<P2 9600) (b3:k<P2 9600) (hSR:Wp S v) (hSV:H3 S v'):Calls prog 95 #[v,v'] w (Ju w S (q.num*((k/q.den:Nat):Int))):=by
 obtain ⟨_,rfl,s,a,n,c,b,m,d,rfl,HS,hx,hy⟩:=h;have hsa:H3 S (.agg (Ab s a n c).toArray):=I4 (hSR s a n c b m d rfl);have hzd:=fun (wx:World) (hC:Ext w wx)=>qh (Av (r:=decide (q.den=1)) (Be (hy.ext hC)) (decide_eq_decide.2 AE));have hm1:=fun (wx:World) (hC:Ext w wx)=>qh (Jv (AX HS (hx.ext hC)) (h'.ext hC) (Ag b1 (by omega)) b3 (Or.inl (Ag b1 (by omega))) hsa hSV);have hqd:q.den≠1→∀ (wx:World) (hC:Ext w wx),Hid (Calls prog 119 #[v', .agg (Ab false b m d).toArray] wx (Ju wx S ((k/q.den:Nat):Int))):=by
  intro hd wx hC;have:=M9 (h'.ext hC) (Be (hy.ext hC)) b3 (by rw [Dk hd]; exact b2) (mt AE.1 hd) hSV;rw [DC hd,Int.tdiv_eq_ediv_of_nonneg (by omega),←Int.natCast_ediv] at this;exact qh this
 have hm2:=fun (wx:World) (hC:Ext w wx) (x:Value) (hv:Ax wx x ((k/q.den:Nat):Int)) (hsx:H3 (fun g=>w.heap.size≤g∨S g) x)=>qh (Jv (AX HS (hx.ext hC)) hv (Ag b1 (by omega)) (Nat.lt_of_le_of_lt (Nat.div_le_self _ _) b3) (Or.inl (Ag b1 (by omega))) (fun s' a' n' c' he h0 g hg=>Or.inr (hsa s' a' n' c' he h0 g hg)) hsx);clear b1 b2 b3;obtain ⟨t,e,l,f,rfl,HT,hv⟩:=h'
 go_enter func95,ntmps95
 go_upto_region 1 with (fail)
 refine F3 ?_;intro w0 hE0 hB0 hB1 hB2 hz0;have p0:=hB0.c 0 rfl;have p1:=hB0.c 1 rfl;have p2:=hB0.c 2 rfl;have p3:=hB0.c 3 rfl;have p4:=hB1.c 0 rfl;have p5:=hB1.c 1 rfl;have hR:Arr w0 (w.heap.size+2) 90 (Ab false none 0 0):=hB2;clear hz0
 go_wp2_with fail
 refine (hzd _ hE0).out.mono ?_;rintro e w1 ⟨rfl,hE1⟩;have hEw:=hE0.trans hE1;have hRw:=hR.ext hE1;have r0:=hE1.cell p0;have r1:=hE1.cell p1;have r2:=hE1.cell p2;have r3:=hE1.cell p3;have r4:=hE1.cell p4;have r5:=hE1.cell p5;clear p0 p1 p2 p3 p4 p5;by_cases hd:q.den=1
 · rw [decide_eq_true hd];have HV:Hid (q.num*((k/q.den:Nat):Int)=q.num*(k:Int)):=qh (by rw [hd,Nat.div_one]);clear hd
   go_wp2_with fail
   refine (hm1 _ hEw).out.mono ?_;rintro e w2 ⟨s1,a1,n1,c1,rfl,hE2,HS1,hx1,hf1⟩;have hl1:(Ab s1 a1 n1 c1).toArray=#[.bool s1, .slice a1 n1 c1]:=rfl;have hRb:=hRw.ext hE2
   go_wp2_with (refine Aa (vs:=Ab s1 a1 n1 c1) rfl rfl rfl rfl rfl Ad hRb rfl (Ai _ _ _ _) ?_; intro w9 hB9 hg9)
   refine bodyPost_ret (Al rfl Ad rfl hB9) rfl ?_;rw [HV.out];exact Fe (hEw.trans hE2) hRb (Aq _ _ _ _) hg9 (by omega) HS1 hx1 (hf1.of hEw.size (fun _ h=>Or.inr h))
 · rw [decide_eq_false hd];have hqd:=hqd hd;clear hd;go_wp2;have HF3:=fun (wx:World) (hC:Ext w1 wx)=>qh (And.intro (hC.cell r0) (And.intro (hC.cell r1) (And.intro (hC.cell r2) (And.intro (hC.cell r3) (And.intro (hC.cell r4) (hC.cell r5))))))
   refine Af (by kernel_rfl) (fun wx=>Ext w1 wx)
    [he (.pointer (some ⟨w.heap.size,0,none⟩)),
 he (.agg #[.bool s, .slice a n c]),
 he (.agg #[.bool t, .slice e l f]),
 he (.pointer (some ⟨w.heap.size,2,none⟩)),
 he (.agg #[.bool false, .slice b m d]),
 hp (fun v wx=>∃ s' a' n' c',v = .agg (Ab s' a' n' c').toArray∧Hid (decide (((k/q.den:Nat):Int)<0)=s')∧Wd wx a' n' c' (((k/q.den:Nat):Int)).natAbs∧Hx w.heap.size S a' n'),
 hp (fun v wx=>∃ s' a' n' c',v = .agg (Ab s' a' n' c').toArray∧Hid (decide (q.num*((k/q.den:Nat):Int)<0)=s')∧Wd wx a' n' c' (q.num*((k/q.den:Nat):Int)).natAbs∧Hx w.heap.size S a' n')]
    (by kernel_rfl) (fun _ _ e h=>h.trans e) ((Ext.refl w1).drew) ⟨trivial,trivial,trivial,trivial,trivial,fun v w w' e ⟨s',a',n',c',h1,h2,h3,h4⟩=>⟨s',a',n',c',h1,h2,h3.ext e,h4⟩,fun v w w' e ⟨s',a',n',c',h1,h2,h3,h4⟩=>⟨s',a',n',c',h1,h2,h3.ext e,h4⟩,trivial⟩ ⟨?o0, ?o1, ?o2, ?o3, ?o4, ?o5, ?o6,trivial⟩ ?fin
   case o0=>exact ofa (d:=0) rfl rfl (fun _ _=>id) (by kernel_rfl) rfl
   case o1=>exact ol2 rfl rfl (fun _ _=>id) ⟨by kernel_rfl,by kernel_rfl⟩ (by assumption) (by assumption)
   case o2=>exact ol2 rfl rfl (fun _ _=>id) ⟨by kernel_rfl,by kernel_rfl⟩ (by assumption) (by assumption)
   case o3=>exact ofa (d:=2) rfl rfl (fun _ _=>id) (by kernel_rfl) rfl
   case o4=>exact ol2 rfl rfl (fun _ _=>id) ⟨by kernel_rfl,by kernel_rfl⟩ (by assumption) (by assumption)
   case o5 =>
    refine Aj rfl fun ρ wx hC hcst hfn h => ?_;have e1:ρ (.tmp 14)=(.agg #[.bool t, .slice e l f]):=h.2.1;have e2:ρ (.tmp 16)=(.agg #[.bool false, .slice b m d]):=h.2.2.1;obtain ⟨kx0,kx1,kx2,kx3,kx4,kx5⟩:=(HF3 wx hC).out;refine ⟨119,#[.agg #[.bool t, .slice e l f], .agg #[.bool false, .slice b m d]],by go_simp,((hqd wx (hEw.trans hC)).out).mono ?_⟩;rintro e w' ⟨s',a',n',c',rfl,hE',hs',hn',hf'⟩;exact ⟨_,rfl,hE',s',a',n',c',rfl,hs',hn',hf'.of (hEw.trans hC).size (fun _ h=>Or.inr h)⟩
   case o6 =>
    refine Aj rfl fun ρ wx hC hcst hfn h => ?_;have e1:ρ (.tmp 13)=(.agg #[.bool s, .slice a n c]):=h.2.1;obtain ⟨v2,e2,s2,a2,n2,c2,rfl,i2,j2,f2⟩:=h.2.2.1;obtain ⟨kx0,kx1,kx2,kx3,kx4,kx5⟩:=(HF3 wx hC).out;refine ⟨98,#[.agg #[.bool s, .slice a n c], .agg (Ab s2 a2 n2 c2).toArray],by go_simp,((hm2 wx (hEw.trans hC) _ ⟨s2,a2,n2,c2,rfl,i2,j2⟩ (I4 f2)).out).mono ?_⟩;rintro e w' ⟨s',a',n',c',rfl,hE',hs',hn',hf'⟩;exact ⟨_,rfl,hE',s',a',n',c',rfl,hs',hn',hf'.of (hEw.trans hC).size (fun _ h=>h)⟩
   case fin =>
    intro wx hC;rintro _ ⟨s91,a91,n91,c91,rfl,HS91,hx91,hf91⟩;rintro _ ⟨s5,a5,n5,c5,rfl,HS5,hx5,hf5⟩;change wpList _ _ _ _ _ _;simp only [List.length_cons,List.length_nil,List.drop_succ_cons,List.drop_zero,Act.put,List.setIfInBounds_toArray,List.set_cons_succ,List.set_cons_zero];have hRb:=hRw.ext hC;have hl5:(Ab s5 a5 n5 c5).toArray=#[.bool s5, .slice a5 n5 c5]:=rfl
    go_wp2_with (refine Aa (vs:=Ab s5 a5 n5 c5) rfl rfl rfl rfl rfl Ad hRb rfl (Ai _ _ _ _) ?_; intro w9 hB9 hg9)
    exact bodyPost_ret (Al rfl Ad rfl hB9) rfl (Fe (hEw.trans hC) hRb (Aq _ _ _ _) hg9 (by omega) HS5 hx5 hf5)
theorem ON (h:BB w v q) (h':Ax w v' (k:Int)) (b1:q.num.natAbs<P2 2400) (b2:q.den<P2 9600) (b3:k<P2 9600):Calls prog 95 #[v,v'] w (Ei w (q.num*((k/q.den:Nat):Int))) :=
 (Nr (S:=fun _=>True) h h' b1 b2 b3 (fun _ _ _ _ _ _ _ _ _ _ _=>trivial) (fun _ _ _ _ _ _ _ _=>trivial)).mono fun _ _ h=>h.plain
theorem Mk {x:Int} (hT:A2 w) (h:Ax w v x) (h':Ax w v' (k:Int)) (bx:x.natAbs<P2 9600) (bk:k<P2 9600) (hk:k≠0):Calls prog 101 #[v,v'] w (F4 w (mkRat x k)):=by
 have hzk:=fun (wx:World) (hC:Ext w wx)=>qh (Av (r:=false) (h'.ext hC) (decide_eq_false (by omega)));have hzn:=fun (wx:World) (hC:Ext w wx)=>qh (Av (r:=decide (x=0)) (h.ext hC) rfl);have hsg:=fun (wx:World) (hC:Ext w wx)=>qh (M7 (r:=1) (h'.ext hC) (Int.sign_eq_one_of_pos (by omega)));have hik:=fun (wx:World) (hC:Ext w wx)=>qh (Ct (r:=decide (k=1)) (h'.ext hC) (decide_eq_decide.2 (by omega)));have hs:=Pl.rat_frac (n:=x) hk;obtain ⟨G,hG⟩:∃ G,G=Nat.gcd x.natAbs k:=⟨_,rfl⟩;rw [←hG] at hs;have hGp:0<G:=by rw [hG]; exact Nat.gcd_pos_of_pos_right _ (Nat.pos_of_ne_zero hk)
 have bG:G<P2 9600:=Nat.lt_of_le_of_lt (by rw [hG]; exact Nat.gcd_le_right _ (Nat.pos_of_ne_zero hk)) bk;have hgc:=fun (wx:World) (hC:Ext w wx)=>qh (EE (hT.ext hC) (h.ext hC) (h'.ext hC) bx bk);simp only [Int.natAbs_natCast,←hG] at hgc;have hio:=fun (wx:World) (y:Value) (hv:Ax wx y (G:Int))=>qh (Ct (r:=decide (G=1)) hv (decide_eq_decide.2 (by omega)));have hq1:=fun (wx:World) (hC:Ext w wx) (g:Value) (hg:Ax wx g (G:Int))=>qh (D3 (h.ext hC) hg bx bG (by omega))
 have hq2:=fun (wx:World) (hC:Ext w wx) (g:Value) (hg:Ax wx g (G:Int))=>qh (D3 (h'.ext hC) hg bk bG (by omega));rw [←hs.1] at hq1;rw [Int.tdiv_eq_ediv_of_nonneg (by omega),←Int.natCast_ediv,←hs.2] at hq2;have HZ:x=0→Hid (mkRat x k=0):=fun e=>qh (by rw [e]; exact Rat.zero_mkRat k)
 have HK:k=1→Hid ((mkRat x k).num=x∧(mkRat x k).den=1):=fun e=>by
  refine qh ?_;rw [hs.1,hs.2,hG,e,Nat.gcd_one_right];exact ⟨Int.tdiv_one _,rfl⟩
 have HO:G=1→Hid ((mkRat x k).num=x∧(mkRat x k).den=k):=fun e=>by
  refine qh ?_;rw [hs.1,hs.2,e];exact ⟨Int.tdiv_one _,Nat.div_one _⟩
 have hI:=fun (wx:World) (hC:Ext w wx)=>h.ext hC;have hI':=fun (wx:World) (hC:Ext w wx)=>h'.ext hC;clear bx bk hk hs hG hGp bG;obtain ⟨s,a,n,c,rfl,HS,hx⟩:=h;obtain ⟨t,b,m,d,rfl,HT,hy⟩:=h'
 go_enter func101,ntmps101
 go_upto_region 1 with (fail)
 refine F3 ?_;intro w0 hE0 hB0 hB1 hB2 hz0;have p00:=hB0.c 0 rfl;have p01:=hB0.c 1 rfl;have p10:=hB1.c 0 rfl;have p11:=hB1.c 1 rfl;have hA0:Arr w0 w.heap.size 90 (Ab s a n c):=hB0;have hA1:Arr w0 (w.heap.size+1) 90 (Ab t b m d):=hB1;have hR:Arr w0 (w.heap.size+2) 97 (An false none 0 0 false none 0 0):=hB2;clear hz0
 go_wp2_with fail
 refine (hzk _ hE0).out.mono ?_;rintro e w1 ⟨rfl,hE1⟩;have r00:=hE1.cell p00;have r01:=hE1.cell p01
 go_wp2_with fail
 refine (hzn _ (hE0.trans hE1)).out.mono ?_;rintro e w2 ⟨rfl,hE2⟩;have hE02:=hE1.trans hE2;clear r00 r01;by_cases hx0:x=0
 · have HZ':=HZ hx0;rw [decide_eq_true hx0];have hRw:=hR.ext hE02;clear HZ HK HO hx0
   go_wp2_with (refine Aa (vs:=An false none 0 0 false none 0 0) rfl rfl rfl rfl rfl Ac hRw rfl (Ap _ _ _ _ _ _ _ _) ?_; intro w9 hB9 hg9)
   refine bodyPost_ret (Al rfl Ac rfl hB9) rfl ?_;rw [HZ'.out];exact Bf (hE0.trans hE02) hRw (AC _ _ _ _ _ _ _ _) hg9 (by omega) (qh rfl) (Wd.nil _) (Wd.nil _)
 rw [decide_eq_false hx0];clear HZ hx0;have r10:=hE02.cell p10;have r11:=hE02.cell p11
 go_wp2_with fail
 refine (hsg _ (hE0.trans hE02)).out.mono ?_;rintro e w3 ⟨rfl,hE3⟩;have hE03:=hE02.trans hE3;clear r10 r11;have r10:=hE03.cell p10;have r11:=hE03.cell p11
 go_wp2_with fail
 refine (hik _ (hE0.trans hE03)).out.mono ?_;rintro e w4 ⟨rfl,hE4⟩;have hE04:=hE03.trans hE4;clear r10 r11;have r00:=hE04.cell p00;have r01:=hE04.cell p01;have r10:=hE04.cell p10;have r11:=hE04.cell p11;by_cases hk1:k=1
 · have HK':=HK hk1;rw [decide_eq_true hk1];have hRw:=hR.ext hE04;clear HK HO hk1
   go_wp2_with (refine Aa (vs:=An s a n c false none 0 0) rfl rfl rfl rfl rfl Ac hRw rfl (Ap _ _ _ _ _ _ _ _) ?_; intro w9 hB9 hg9)
   exact bodyPost_ret (Al rfl Ac rfl hB9) rfl (Bf (hE0.trans hE04) hRw (AC _ _ _ _ _ _ _ _) hg9 (by omega) (by rw [HK'.out.1]; exact HS) (by rw [HK'.out.1]; exact hx.ext (hE0.trans hE04)) (by rw [AE.2 HK'.out.2]; exact Wd.nil _))
 rw [decide_eq_false hk1];clear HK hk1
 go_wp2_with fail
 refine (hgc _ (hE0.trans hE04)).out.mono ?_;rintro e w5 ⟨s3,a3,n3,c3,rfl,hE5,HS3,hx3⟩;have hl3:(Ab s3 a3 n3 c3).toArray=#[.bool s3, .slice a3 n3 c3]:=rfl;have hY:=Arr.new w5 90 (Ab false none 0 0)
 go_upto_region 8 with (refine Aa (vs:=Ab s3 a3 n3 c3) rfl rfl rfl rfl rfl Ad hY rfl (Ai _ _ _ _) ?_; intro w6 hB3 hg3)
 have hE6:Ext w5 w6:=((Ext.refl w5).alloc _).grownR hg3 (lrf _);have m30:=hB3.c 0 rfl;have m31:=hB3.c 1 rfl;have iG:Ax w6 (.agg (Ab s3 a3 n3 c3).toArray) (G:Int):=⟨s3,a3,n3,c3,rfl,HS3,hx3.ext hE6⟩
 go_wp2_with fail
 refine (hio _ _ iG).out.mono ?_;rintro e w7 ⟨rfl,hE7⟩;have hE47:=(hE5.trans hE6).trans hE7;have hE07:=hE04.trans hE47;have hEw7:=hE0.trans hE07;have hRw7:=hR.ext hE07;have m30:=hE7.cell m30;have m31:=hE7.cell m31;have iG:=iG.ext hE7;have hA0:=hA0.ext hE07;have hA1:=hA1.ext hE07;clear r00 r01 r10 r11;have r00:=hE07.cell p00;have r01:=hE07.cell p01;have r10:=hE07.cell p10;have r11:=hE07.cell p11;by_cases hG1:G=1
 · have HO':=HO hG1;rw [decide_eq_true hG1];clear HO hG1;have i1:=hI _ hEw7;have i2:=hI' _ hEw7;rw [←HO'.out.1] at i1;rw [←HO'.out.2] at i2
   go_wp2_with fail
   refine (CF (q:=mkRat x k) i1 i2).mono ?_;rintro e w12 ⟨cs,rfl,hE12,s9,a9,n9,c9,b9,m9,d9,rfl,HS9,hx9,hy9⟩;have hl9:(An s9 a9 n9 c9 false b9 m9 d9).toArray=#[.bool s9, .slice a9 n9 c9, .bool false, .slice b9 m9 d9]:=rfl;have hR1:=hRw7.ext hE12
   go_wp2_with (refine Aa (vs:=An s9 a9 n9 c9 false b9 m9 d9) rfl rfl rfl rfl rfl Ac hR1 rfl (Ap _ _ _ _ _ _ _ _) ?_; intro w13 hB13 hg13)
   exact bodyPost_ret (Al rfl Ac rfl hB13) rfl (Bf (hEw7.trans hE12) hR1 (AC _ _ _ _ _ _ _ _) hg13 (by omega) HS9 hx9 hy9)
 · rw [decide_eq_false hG1];clear HO hG1;go_wp2;have HF4:=fun (wx:World) (hC:Ext w7 wx)=>qh (And.intro (hC.cell r00) (And.intro (hC.cell r01) (And.intro (hC.cell r10) (And.intro (hC.cell r11) (And.intro (hC.cell m30) (hC.cell m31))))))
   refine Af (by kernel_rfl) (fun wx=>Ext w7 wx)
    [he (.agg #[.bool s, .slice a n c]),
 he (.agg #[.bool s3, .slice a3 n3 c3]),
 hp (fun v wx=>NI ((mkRat x k).num) v wx),
 he (.agg #[.bool t, .slice b m d]),
 he (.agg #[.bool s3, .slice a3 n3 c3]),
 hp (fun v wx=>NI (((mkRat x k).den:Int)) v wx)]
    (by kernel_rfl) (fun _ _ e h=>h.trans e) ((Ext.refl w7).drew) ⟨trivial,trivial,NI.x _,trivial,trivial,NI.x _,trivial⟩ ⟨?o0, ?o1, ?o2, ?o3, ?o4, ?o5,trivial⟩ ?fin
   case o0=>exact ol2 rfl rfl (fun _ _=>id) ⟨by kernel_rfl,by kernel_rfl⟩ (by assumption) (by assumption)
   case o1=>exact ol2 rfl rfl (fun _ _=>id) ⟨by kernel_rfl,by kernel_rfl⟩ (by assumption) (by assumption)
   case o2 =>
    refine Aj rfl fun ρ wx hC hcst hfn h => ?_;have e1:ρ (.tmp 30)=(.agg #[.bool s, .slice a n c]):=h.2.1;have e2:ρ (.tmp 31)=(.agg #[.bool s3, .slice a3 n3 c3]):=h.2.2.1;obtain ⟨k00,k01,k10,k11,k30,k31⟩:=(HF4 wx hC).out;refine ⟨119,#[.agg #[.bool s, .slice a n c], .agg #[.bool s3, .slice a3 n3 c3]],by go_simp,((hq1 wx (hEw7.trans hC) _ (iG.ext hC)).out).mono ?_⟩;rintro e w' ⟨s',a',n',c',rfl,hE',hs',hn'⟩;exact ⟨_,rfl,hE',s',a',n',c',rfl,hs',hn'⟩
   case o3=>exact ol2 rfl rfl (fun _ _=>id) ⟨by kernel_rfl,by kernel_rfl⟩ (by assumption) (by assumption)
   case o4=>exact ol2 rfl rfl (fun _ _=>id) ⟨by kernel_rfl,by kernel_rfl⟩ (by assumption) (by assumption)
   case o5 =>
    refine Aj rfl fun ρ wx hC hcst hfn h => ?_;have e1:ρ (.tmp 33)=(.agg #[.bool t, .slice b m d]):=h.2.1;have e2:ρ (.tmp 34)=(.agg #[.bool s3, .slice a3 n3 c3]):=h.2.2.1;obtain ⟨k00,k01,k10,k11,k30,k31⟩:=(HF4 wx hC).out;refine ⟨119,#[.agg #[.bool t, .slice b m d], .agg #[.bool s3, .slice a3 n3 c3]],by go_simp,((hq2 wx (hEw7.trans hC) _ (iG.ext hC)).out).mono ?_⟩;rintro e w' ⟨s',a',n',c',rfl,hE',hs',hn'⟩;exact ⟨_,rfl,hE',s',a',n',c',rfl,hs',hn'⟩
   case fin =>
    intro wx hC;rintro _ ⟨s1,a1,n1,c1,rfl,HS1,hx1⟩;rintro _ ⟨s2,a2,n2,c2,rfl,HS2,hx2⟩;change wpList _ _ _ _ _ _;simp only [List.length_cons,List.length_nil,List.drop_succ_cons,List.drop_zero,Act.put,List.setIfInBounds_toArray,List.set_cons_succ,List.set_cons_zero];have hRa:=hA0.ext hC;have hRb:=hA1.ext hC;have hRz:=hRw7.ext hC;have hl1:(Ab s1 a1 n1 c1).toArray=#[.bool s1, .slice a1 n1 c1]:=rfl;have hl2:(Ab s2 a2 n2 c2).toArray=#[.bool s2, .slice a2 n2 c2]:=rfl
    go_upto_region 10 with (first
     | (refine Aa (vs:=Ab s1 a1 n1 c1) rfl rfl rfl rfl rfl Ad hRa rfl (Ai _ _ _ _) ?_; intro w9 hB9 hg9; have hRc:=hRb.kept hg9 (by simp))
     | (refine Aa (vs:=Ab s2 a2 n2 c2) rfl rfl rfl rfl rfl Ad hRc rfl (Ai _ _ _ _) ?_; intro w10 hB10 hg10))
    have hB9':=hB9.kept hg10 (by simp);have hRz:=(hRz.kept hg9 (by simp)).kept hg10 (by simp);have hE10:Ext w w10:=((hEw7.trans hC).grownR hg9 (lrf _)).grownR hg10 (by omega);have i1:Ax w10 (.agg (Ab s1 a1 n1 c1).toArray) (mkRat x k).num:=⟨s1,a1,n1,c1,rfl,HS1,(hx1.kept hRa (Aq _ _ _ _) hg9).kept hRc (Aq _ _ _ _) hg10⟩;have i2:Ax w10 (.agg (Ab s2 a2 n2 c2).toArray) ((mkRat x k).den:Int):=⟨s2,a2,n2,c2,rfl,HS2,(hx2.kept hRa (Aq _ _ _ _) hg9).kept hRc (Aq _ _ _ _) hg10⟩;have e10:w10.cell? ⟨w.heap.size,0,none⟩=some (.bool s1):=hB9'.cell (i:=0) (by simp [Ab])
    have e11:w10.cell? ⟨w.heap.size,1,none⟩=some (.slice a1 n1 c1):=hB9'.cell (i:=1) (by simp [Ab]);have e20:=hB10.c 0 rfl;have e21:=hB10.c 1 rfl
    go_wp2_with fail
    refine (CF (q:=mkRat x k) i1 i2).mono ?_;rintro e w12 ⟨cs,rfl,hE12,s9,a9,n9,c9,b9,m9,d9,rfl,HS9,hx9,hy9⟩;have hl9:(An s9 a9 n9 c9 false b9 m9 d9).toArray=#[.bool s9, .slice a9 n9 c9, .bool false, .slice b9 m9 d9]:=rfl;have hR1:=hRz.ext hE12
    go_wp2_with (refine Aa (vs:=An s9 a9 n9 c9 false b9 m9 d9) rfl rfl rfl rfl rfl Ac hR1 rfl (Ap _ _ _ _ _ _ _ _) ?_; intro w13 hB13 hg13)
    exact bodyPost_ret (Al rfl Ac rfl hB13) rfl (Bf (hE10.trans hE12) hR1 (AC _ _ _ _ _ _ _ _) hg13 (by omega) HS9 hx9 hy9)
theorem Ek {k:Nat}:∀ (rows:List (List Value)),(∀ r∈rows,r.length=k)→∀ i j,j<k→rows.flatten[i*k+j]?=(rows[i]?).bind (·[j]?)
 | [],_,i,j,_=>by simp
 | r :: rest,h,0,j,hj=>by
  have hr:r.length=k:=h r (by simp);simp only [Nat.zero_mul,Nat.zero_add,List.flatten_cons,List.getElem?_cons_zero,Option.bind_some];rw [List.getElem?_append_left (by omega)]
 | r :: rest,h,i+1,j,hj=>by
  have hr:r.length=k:=h r (by simp);have ih:=Ek rest (fun x hx=>h x (by simp [hx])) i j hj;simp only [List.flatten_cons,List.getElem?_cons_succ];have e:(i+1)*k+j=k+(i*k+j):=by rw [Nat.add_mul]; omega
  rw [e,List.getElem?_append_right (by omega),hr,Nat.add_sub_cancel_left,ih]
theorem Cl {k:Nat}:∀ (rows:List (List Value)),(∀ r∈rows,r.length=k)→rows.flatten.length=rows.length*k
 | [],_=>by simp
 | r :: rest,h=>by
  have hr:r.length=k:=h r (by simp);have ih:=Cl rest (fun x hx=>h x (by simp [hx]));simp only [List.flatten_cons,List.length_append,List.length_cons,ih,hr,Nat.add_mul];omega
theorem Ns {k:Nat}:∀ (rows:List (List Value)),(∀ r∈rows,r.length=k)→∀ i (vs:List Value),vs.length=k→i<rows.length →
 rows.flatten.take (i*k) ++ vs ++ rows.flatten.drop (i*k+k)=(rows.set i vs).flatten
 | [],_,i,vs,_,hi=>by simp at hi
 | r :: rest,h,0,vs,hv,_=>by
  have hr:r.length=k:=h r (by simp);simp only [Nat.zero_mul,List.take_zero,List.nil_append,Nat.zero_add,List.flatten_cons,List.set_cons_zero];rw [List.drop_append,hr,Nat.sub_self,List.drop_zero,List.drop_eq_nil_of_le (by omega),List.nil_append]
 | r :: rest,h,i+1,vs,hv,hi=>by
  have hr:r.length=k:=h r (by simp);have ih:=Ns rest (fun x hx=>h x (by simp [hx])) i vs hv (by simpa using hi);have e:(i+1)*k=k+i*k:=by rw [Nat.add_mul]; omega
  simp only [List.flatten_cons,List.set_cons_succ,e];rw [List.take_append,List.drop_append,List.take_of_length_le (by omega),List.drop_eq_nil_of_le (by omega),List.nil_append,hr];have e1:k+i*k-k=i*k:=by omega
  have e2:k+i*k+k-k=i*k+k:=by omega
  rw [e1,e2,←ih];simp
theorem Nt {a N:Nat} (hv:vs.length=k) (h1:a+k≤N) (h2:N≤L.length):(L.take a ++ vs ++ L.drop (a+k)).take N=(L.take N).take a ++ vs ++ (L.take N).drop (a+k):=by
 have hl:(L.take a ++ vs).length=a+k:=by simp [hv]; omega
 rw [List.take_take,Nat.min_eq_left (by omega),List.drop_take,List.take_append,List.take_of_length_le (by omega),hl]
theorem OO {a:Nat} (hv:vs.length=k) (h:a+k≤L.length):(L.take a ++ vs ++ L.drop (a+k)).length=L.length:=by
 simp [hv]; omega
structure SlK (w:World) (k:Nat) (a:Option Addr) (n c:Nat) (rows:List (List Value)):Prop where
 len:rows.length=n
 cap:n≤c
 max:c≤maxLen
 wid:∀ r∈rows,r.length=k
 rd:0<n→∃ b off,a=some ⟨b,off,none⟩∧∀ i,i<n→∀ j,j<k→w.cell? ⟨b,off+i*k+j,none⟩=some ((rows.getD i []).getD j undef)
theorem SlK.ext (h:SlK w k a n c rows) (e:Ext w w'):SlK w' k a n c rows :=
 ⟨h.len,h.cap,h.max,h.wid,fun h0=>let ⟨b,off,ha,hc⟩:=h.rd h0; ⟨b,off,ha,fun i hi j hj=>e.cell (hc i hi j hj)⟩⟩
theorem SlK.nil (w:World) (k:Nat):SlK w k none 0 0 []:=⟨rfl,lrf _,Nat.zero_le _,(fun _ h=>by cases h),fun h=>absurd h (by omega)⟩
theorem SlK.le (h:SlK w k a n c rows):n≤9223372036854775807:=by
 have h1:=h.cap; have h2:=h.max; unfold maxLen at h2; omega
theorem SlK.row (h:SlK w k a n c rows) {i:Nat} (hi:i<n):(rows.getD i []).length=k:=by
 have hl:i<rows.length:=by rw [h.len]; exact hi
 refine h.wid _ ?_;rw [gqq,List.getElem?_eq_getElem hl];simp
def A3 (w:World) (base:Nat) (e:TypeId) (k:Nat) (a:Option Addr) (n c:Nat) (rows:List (List Value)):Prop:=(∀ r∈rows,r.length=k)∧w.ownsRow base e k (.slice a n c) n rows.flatten
section
variable {w w':World} {base:Nat} {e:TypeId} {k:Nat} {a:Option Addr} {n c:Nat} {rows:List (List Value)}
theorem A3.ext (h:A3 w base e k a n c rows) (x:Ext w w'):A3 w' base e k a n c rows:=⟨h.1,MU h.2 x⟩
theorem A3.nil (w:World) (base:Nat) (e:TypeId) (k:Nat):A3 w base e k none 0 0 []:=⟨(fun _ h=>by cases h),World.ownsRow_nil w base e k⟩
theorem A3.mono (h:A3 w base e k a n c rows) (hb:base'≤base):A3 w base' e k a n c rows:=by
 obtain ⟨h0,h1,h2⟩:=h;refine ⟨h0,h1, ?_⟩;rcases h2 with h2|⟨g,cap,cur,hv,hg,r⟩
 · exact Or.inl h2
 · exact Or.inr ⟨g,cap,cur,hv,by omega,r⟩
theorem A3.kept {row:Option Nat} (h:A3 w base e k a n c rows) (hg:w.grownBy w' row) (hne:blk a=none∨blk a≠row):A3 w' base e k a n c rows:=by
 refine ⟨h.1,World.ownsRow.kept h.2 hg ?_⟩;cases a with
 | none=>left; rfl
 | some b=>right; rcases hne with h | h
           · simp [blk] at h
           · simpa [blk,Value.ownBlock] using h
theorem A3.lt (h:A3 w base e k a n c rows) {g:Nat} (hk:blk a=some g):base≤g∧g<w.heap.size:=by
 refine World.ownsRow.lt h.2 g ?_;cases a with
 | none=>simp [blk] at hk
 | some b=>simpa [blk,Value.ownBlock] using hk
theorem A3.place (h:A3 w base e k a n c rows) (hn:0<n):∃ g,a=some ⟨g,0,none⟩∧base≤g∧g<w.heap.size:=by
 rcases h.2.2 with ⟨_,h0⟩|⟨g,cap,cur,hv,hg,hh,_⟩
 · omega
 · simp only [Value.slice.injEq] at hv;refine ⟨g,hv.1,hg, ?_⟩;rcases Nat.lt_or_ge g w.heap.size with h|h
   · exact h
   · simp [Array.getElem?_eq_none h] at hh
theorem A3.len (hk:0<k) (h:A3 w base e k a n c rows):rows.length=n:=by
 have h1:=h.2.1;rw [Cl rows h.1] at h1;exact Nat.eq_of_mul_eq_mul_right hk h1
theorem A3.slk (hk:0<k) (h:A3 w base e k a n c rows):SlK w k a n c rows:=by
 have hl:=h.len hk;obtain ⟨h0,h1,h2⟩:=h;rcases h2 with ⟨hv,hn⟩|⟨g,cap,cur,hv,hb,hh,hnc,hm,hs,ht⟩
 · simp only [Value.slice.injEq] at hv;obtain ⟨rfl,rfl,rfl⟩:=hv;have:rows=[]:=List.eq_nil_of_length_eq_zero hl;subst this;exact SlK.nil w k
 · simp only [Value.slice.injEq,true_and] at hv;obtain ⟨rfl,rfl⟩:=hv;refine ⟨hl,hnc,hm,h0,fun _=>⟨g,0,rfl,fun i hi j hj => ?_⟩⟩;have hi':i<rows.length:=by omega
   have hrl:(rows[i]).length=k:=h0 _ (List.getElem_mem hi');have h3:=Ek rows h0 i j hj;rw [List.getElem?_eq_getElem hi',Option.bind_some,←ht,List.getElem?_take] at h3;have hlt:i*k+j<n*k:=by
    have:(i+1)*k≤n*k:=Nat.mul_le_mul_right k hi;rw [Nat.add_mul] at this; omega
   rw [if_pos hlt] at h3;rw [Nat.zero_add,cell_of_row w g _ cur e (0,0) hh];have h4:cur[i*k+j]?=(rows[i])[j]?:=by rw [←h3]; simp
   rw [h4,List.getElem?_eq_getElem (by omega)];simp [hi',hrl,hj]
end
section
variable {P:Program} {w:World}
theorem TV {b off i:Nat} (ha:Agg P ty k) (h:SlK w k (some ⟨b,off,none⟩) n c rows) (hi:i<n) :
 (Instr.loadAt ty (.pointer (some ⟨b,off+i*k,none⟩))).run P w = .ok (.agg (rows.getD i []).toArray) w:=by
 obtain ⟨d,hu,hd,hinf⟩:=ha.parts;obtain ⟨b',off',e,hc⟩:=h.rd (by omega);simp only [Option.some.injEq,Addr.mk.injEq,and_true] at e;obtain ⟨rfl,rfl⟩:=e;have hrl:=h.row hi;have hl:(loadCells ⟨b,off+i*k,none⟩ (rows.getD i []).length).run P w = .ok (rows.getD i []).toArray w:=by
  refine run_loadCells_list (P:=P) w _ (rows.getD i []) (fun j v hv => ?_);have hj:j<k:=by
   rcases Nat.lt_or_ge j k with h|h
   · exact h
   · rw [List.getElem?_eq_none (by omega)] at hv; cases hv
  have hadd:(⟨b,off+i*k,none⟩:Addr).add j=⟨b,off+i*k+j,none⟩:=by unfold Addr.add; split <;> simp_all
  rw [hadd,hc i hi j hj,gqq,hv];rfl
 rw [hrl] at hl;cases hq:P.info? ty with
 | none=>simp [hq] at hinf
 | some inf =>
  have hs:inf.size=k:=by simpa [hq] using hinf
  have hagg:(isAgg ty).run P w = .ok true w:=by
   cases d <;> simp_all [isAgg,run_underlying hu]
  simp [Instr.loadAt,Instr.sureAddr,loadVar,hagg,Go.sizeOf,typeInfo,hq,hs,hl]
theorem CZ {x:Operand} (hgd:o.guard=none) (ho:o.op = .load ty x)
 {k:Nat} {b off n c i:Nat} {rows:List (List Value)} (ha:Agg P ty k) (hx:f.eval x = .pointer (some ⟨b,off+i*k,none⟩)) (h:SlK w k (some ⟨b,off,none⟩) n c rows) (hi:i<n)
 (hK:wpList P ops Q rest (f.put o.dst (.agg (rows.getD i []).toArray)) w):wpList P ops Q (o :: rest) f w:=by
 refine wpList_plain hgd fun K hK' => ?_;unfold Oper.wp execOp;simp only [ho,hx,Sem.run_bind,TV ha h hi,Result.andThen_ok,Sem.run_pure,Oper.upon];exact hK' _ _ hK
theorem TW {ty:TypeId} {k base:Nat} {e:TypeId} {g n c i:Nat} {rows:List (List Value)} {vs:List Value} (hk:0<k) (ha:Agg P ty k) (h:A3 w base e k (some ⟨g,0,none⟩) n c rows) (hi:i<n) (hl:vs.length=k) (h1:∀ v∈vs,v.oneCell'=true) :
 ∃ w',(Instr.storeAt ty (.pointer (some ⟨g,i*k,none⟩)) (.agg vs.toArray)).run P w = .ok () w'∧A3 w' base e k (some ⟨g,0,none⟩) n c (rows.set i vs)∧w.grownBy w' (some g):=by
 obtain ⟨d,hu,hd,hinf⟩:=ha.parts;have hlen:=h.len hk;obtain ⟨h0,hfl,h2⟩:=h;rcases h2 with ⟨hv,_⟩|⟨g',cap,cur,hv,hb,hh,hnc,hm,hs,ht⟩
 · simp at hv
 simp only [Value.slice.injEq,Option.some.injEq,Addr.mk.injEq,and_true,true_and] at hv;obtain ⟨rfl,rfl⟩:=hv;have hik:i*k+k≤n*k:=by
  have:(i+1)*k≤n*k:=Nat.mul_le_mul_right k hi;rw [Nat.add_mul] at this; omega
 have hck:n*k≤c*k:=Nat.mul_le_mul_right k hnc;have hrun:=run_storeCells_at (P:=P) g (i*k) e vs 0 cur w hh (by rw [hl]; omega) h1;rw [Nat.add_zero,hl] at hrun;refine ⟨w.setRow g (cur.toList.take (i*k) ++ vs ++ cur.toList.drop (i*k+k)).toArray, ?_,⟨?_, ?_⟩,BJ w g _⟩
 · cases hq:P.info? ty with
   | none=>simp [hq] at hinf
   | some inf =>
    have hs:inf.size=k:=by simpa [hq] using hinf
    simp [Instr.storeAt,Instr.sureAddr,storeVar,Go.sizeOf,typeInfo,hq,Value.cells,hs,hl,hrun]
 · intro r hr;rcases List.mem_or_eq_of_mem_set hr with hr|rfl
   · exact h0 r hr
   · exact hl
 · have hset:=Ns rows h0 i vs hl (by omega);refine ⟨by rw [Cl _ (fun r hr=>by rcases List.mem_or_eq_of_mem_set hr with hr | rfl; exact h0 r hr; exact hl)]; simp [hlen],Or.inr ⟨g,c,(cur.toList.take (i*k) ++ vs ++ cur.toList.drop (i*k+k)).toArray,rfl,hb,by simp [World.setRow,Array.getElem?_modify,hh],hnc,hm, ?_, ?_⟩⟩
   · have:=OO (L:=cur.toList) (a:=i*k) hl (by simp [hs]; omega);simpa [hs] using this
   · rw [←hset,←ht];exact Nt hl hik (by simp [hs]; omega)
theorem JV {x:Operand} (hgd:o.guard=none) (ho:o.op = .store ty x y)
 {k base:Nat} {e:TypeId} {g n c i:Nat} {rows:List (List Value)} {vs:List Value} {va:Array Value} (hk:0<k) (ha:Agg P ty k) (hx:f.eval x = .pointer (some ⟨g,i*k,none⟩)) (hy:f.eval y = .agg va) (hva:va=vs.toArray)
 (h:A3 w base e k (some ⟨g,0,none⟩) n c rows) (hi:i<n) (hl:vs.length=k) (h1:∀ v∈vs,v.oneCell'=true)
 (hK:∀ w',A3 w' base e k (some ⟨g,0,none⟩) n c (rows.set i vs)→w.grownBy w' (some g)→wpList P ops Q rest (f.put o.dst undef) w'):wpList P ops Q (o :: rest) f w:=by
 subst hva;obtain ⟨w',hrun,h2,h3⟩:=TW hk ha h hi hl h1;refine wpList_plain hgd fun K hK' => ?_;unfold Oper.wp execOp;simp only [ho,hx,hy,Sem.run_bind,hrun,Result.andThen_ok,Sem.run_pure,Oper.upon];exact hK' _ _ (hK _ h2 h3)
def El (P:Program) (e:TypeId) (zs:List Value) (k bytes:Nat):Prop :=
 (P.info? e).map (fun i=>(i.zero,i.size,i.bytes))=some (some (.agg zs.toArray),k,bytes)∧zs.length=k∧0<k
theorem El.parts {P:Program} (h:El P e zs k bytes):∃ i,P.info? e=some i∧i.zero=some (.agg zs.toArray)∧i.size=k∧i.bytes=bytes:=by
 obtain ⟨h,_,_⟩:=h;cases hi:P.info? e with
 | none=>rw [hi] at h; cases h
 | some i =>
  rw [hi] at h;simp only [Option.map_some,Option.some.injEq,Prod.mk.injEq] at h;exact ⟨i,rfl,h.1,h.2.1,h.2.2⟩
theorem Nu {base:Nat} 
 (ht:P.underlying t=some (.slice e)) (hinfo:El P e zs k bytes) (hown:A3 w base e k a n c rows) (hsl:SlK w k (some ad) m cx news)
 (h1:∀ r∈news,∀ u∈r,u.oneCell'=true) (h63:n+m≤maxLen) (hbytes:(n+m)*bytes≤140737488355328) (hbase:base≤w.heap.size) :
 ∃ a' c' w',(Builtin.append_ #[t,t] ty #[.slice a n c, .slice (some ad) m cx]).run P w = .ok (.slice a' (n+m) c') w'∧A3 w' base e k a' (n+m) c' (rows ++ news) ∧
  w.grownBy w' (blk a)∧(blk a'=blk a∨blk a'=some w.heap.size):=by
 obtain ⟨i,hi,hz,hsize,hby⟩:=hinfo.parts;have hk:=hinfo.2.2;have hzc:(Value.agg zs.toArray).cells.size=k:=by simp [Value.cells,hinfo.2.1]
 have hob:(Value.slice a n c).ownBlock=blk a:=by cases a <;> rfl
 have hcells:∀ j u,news.flatten[j]?=some u→w.cell? (ad.add j)=some u:=by
  intro j u hu;have hj:j<news.flatten.length:=by
   rcases Nat.lt_or_ge j news.flatten.length with h|h
   · exact h
   · simp [List.getElem?_eq_none h] at hu
  rw [Cl news hsl.wid,hsl.len] at hj;have hm0:0<m:=by rcases Nat.eq_zero_or_pos m with h | h; (rw [h,Nat.zero_mul] at hj; omega); exact h
  obtain ⟨b,o,h,hc⟩:=hsl.rd hm0;injection h with h;subst h;have hjd:j/k<m:=(Nat.div_lt_iff_lt_mul hk).2 hj;have hjm:j%k<k:=Nat.mod_lt _ hk;have hje:j=j/k*k+j%k:=by rw [Nat.mul_comm]; exact (Nat.div_add_mod j k).symm
  have h2:=hc (j/k) hjd (j%k) hjm;have h3:=Ek news hsl.wid (j/k) (j%k) hjm;rw [←hje,hu] at h3;have hl:j/k<news.length:=by rw [hsl.len]; exact hjd
  rw [List.getElem?_eq_getElem hl,Option.bind_some] at h3;have h4:(news.getD (j/k) []).getD (j%k) undef=u:=by
   rw [gqq (l:=news),List.getElem?_eq_getElem hl,Option.getD_some,gqq,←h3];rfl
  rw [h4,Nat.add_assoc,←hje] at h2;rw [←h2];unfold Addr.add;by_cases h0:j=0 <;> simp [h0]
 obtain ⟨v',w',hrun,h2,h3,_,h5⟩:=run_append_own_at (P:=P) w base t ty e i (.agg zs.toArray) k bytes ht hi hz hsize hby hzc hk (.slice a n c) n rows.flatten hown.2 ad m cx news.flatten (by rw [Cl news hsl.wid,hsl.len]) hcells (by intro u hu; obtain ⟨r,hr,hu⟩:=List.mem_flatten.1 hu; exact h1 r hr u hu) h63 hbytes hbase;rw [←List.flatten_append] at h2;have hw:∀ r∈rows ++ news,r.length=k:=fun r hr=>(List.mem_append.1 hr).elim (hown.1 r) (hsl.wid r);rcases h2.2 with ⟨hv,h0⟩|⟨g,cap,cur,hv,_⟩
 · subst hv;refine ⟨none,0,w',by rw [hrun,h0],⟨hw, ?_⟩,by rw [←hob]; exact h3,by rw [←hob]; exact h5⟩;rw [h0] at h2 ⊢;exact h2
 · subst hv;exact ⟨_,cap,w',hrun,⟨hw,h2⟩,by rw [←hob]; exact h3,by rw [←hob]; exact h5⟩
theorem PH {x:Operand} (hgd:o.guard=none)
 (ho:o.op = .call { callee := .builtin .append,args:=#[s,x],argTypes:=#[t,t] })
 {e:TypeId} {zs:List Value} {k bytes base:Nat} {a:Option Addr} {n c:Nat} {rows:List (List Value)} {ad:Addr} {m cx:Nat} {news:List (List Value)}
 (ht:P.underlying t=some (.slice e)) (hinfo:El P e zs k bytes) (hs:f.eval s = .slice a n c) (hown:A3 w base e k a n c rows) (hx:f.eval x = .slice (some ad) m cx) (hsl:SlK w k (some ad) m cx news)
 (h1:∀ r∈news,∀ u∈r,u.oneCell'=true) (h63:n+m≤maxLen) (hbytes:(n+m)*bytes≤140737488355328) (hbase:base≤w.heap.size)
 (h:∀ a' c' w',A3 w' base e k a' (n+m) c' (rows ++ news)→w.grownBy w' (blk a)→(blk a'=blk a∨blk a'=some w.heap.size)→wpList P ops Q rest (f.put o.dst (.slice a' (n+m) c')) w') :
 wpList P ops Q (o :: rest) f w:=by
 refine wpList_plain hgd fun _ hK => ?_;obtain ⟨a',c',w',hrun,h2,h3,h4⟩:=Nu (P:=P) (ty:=o.type) ht hinfo hown hsl h1 h63 hbytes hbase;unfold Oper.wp execOp;simp only [ho,resolve,invoke,builtin,Sem.run_bind,Sem.run_pure,Result.andThen_ok,List.map_toArray,List.map_cons,List.map_nil,hs,hx,hrun];exact hK _ _ (h a' c' w' h2 h3 h4)
theorem Ln (hl:zs.length=k) (hk:0<k):(madeCells zs.toArray (n*k)).toList=(List.replicate n zs).flatten:=by
 have hw:∀ r∈List.replicate n zs,r.length=k:=fun r hr=>by rw [(List.mem_replicate.1 hr).2]; exact hl
 refine List.ext_getElem? fun j => ?_;by_cases hj:j<n*k
 · have hje:j=j/k*k+j%k:=by rw [Nat.mul_comm]; exact (Nat.div_add_mod j k).symm
   have hjd:j/k<n:=(Nat.div_lt_iff_lt_mul hk).2 hj;have hjm:j%k<k:=Nat.mod_lt _ hk;have h3:=Ek (List.replicate n zs) hw (j/k) (j%k) hjm;rw [←hje] at h3;rw [h3];simp [madeCells,hj,hl,hjd,hjm]
 · have h1:(madeCells zs.toArray (n*k)).toList.length≤j:=by simp [size_madeCells]; omega
   have h2:(List.replicate n zs).flatten.length≤j:=by rw [Cl _ hw]; simp; omega
   rw [List.getElem?_eq_none h1,List.getElem?_eq_none h2]
theorem Fm {c:Operand} (hg:o.guard=none) (hop:o.op=Op.makeSlice t l c)
 {e:TypeId} {zs:List Value} {k bytes n:Nat} (ht:P.underlying t=some (.slice e)) (hinfo:El P e zs k bytes) (hl:f.eval l = .int .i64 n) (hc:f.eval c = .int .i64 n)
 (hb:bytes*n≤281474976710656) (h63:n≤maxLen)
 (hK:∀ w',A3 w' w.heap.size e k (some ⟨w.heap.size,0,none⟩) n n (List.replicate n zs)→Ext w w'→wpList P ops Q rest (f.put o.dst (.slice (some ⟨w.heap.size,0,none⟩) n n)) w') :
 wpList P ops Q (o :: rest) f w:=by
 refine wpList_plain hg fun K hK' => ?_;obtain ⟨i,hi,hz,hsize,hby⟩:=hinfo.parts;obtain ⟨w',hrun,h2,h3⟩:=run_make_full (P:=P) w w.heap.size t e i (.agg zs.toArray) k ht hi hz hsize .i64 .i64 n (by rw [hby]; exact hb) h63 (lrf _);have h4:(Value.agg zs.toArray).cells=zs.toArray:=rfl;rw [h4,Ln hinfo.2.1 hinfo.2.2] at h2;unfold Oper.wp execOp;simp only [hop,Sem.run_bind,Sem.run_pure,Result.andThen_ok,hl,hc,hrun,Oper.upon];exact hK' _ _ (hK w' ⟨fun r hr=>by rw [(List.mem_replicate.1 hr).2]; exact hinfo.2.1,h2⟩ ((Ext.refl w).grown h3 (by simp)))
end
end Go.Proofs.YtlpgonpfjbhmfaaGreatDoor
