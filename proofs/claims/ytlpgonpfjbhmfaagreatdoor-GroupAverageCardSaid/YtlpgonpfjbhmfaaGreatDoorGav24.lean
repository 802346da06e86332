/- Part Gav24. -/
import Derived.Test.YtlpgonpfjbhmfaaGreatDoorGav23
set_option maxRecDepth 100000
set_option maxHeartbeats 100000000
namespace Go.Proofs.YtlpgonpfjbhmfaaGreatDoor
open Tryz Go Go.RowKit
variable {p q:Rat} {v v':Value} {w:World}
theorem IA (hT:A2 w) (h:BB w v p) (h':BB w v' q) (b1:p.num.natAbs<P2 2400) (b2:p.den<P2 2400) (b3:q.num.natAbs<P2 2400) (b4:q.den<P2 2400) (hp0:p≠0) (hq0:q≠0) (hd:p.den≠1∨q.den≠1):Calls prog 62 #[v,v'] w (F4 w (p*q)):=by
 have hdn1:=fun (wx:World) (hC:Ext w wx)=>qh (GU (h.ext hC));have hdn2:=fun (wx:World) (hC:Ext w wx)=>qh (GU (h'.ext hC));obtain ⟨_,rfl,s,a,n,c,b,m,d,rfl,HS,hx,hy⟩:=h;obtain ⟨_,rfl,s',a',n',c',b',m',d',rfl,HS',hx',hy'⟩:=h';have hz1:=fun (wx:World) (hC:Ext w wx)=>qh (Av (r:=false) (AX HS (hx.ext hC)) (decide_eq_false (mt Pl.rat_num_den_zero.1 hp0)));have hz2:=fun (wx:World) (hC:Ext w wx)=>qh (Av (r:=false) (AX HS' (hx'.ext hC)) (decide_eq_false (mt Pl.rat_num_den_zero.1 hq0)))
 have hz3:=fun (wx:World) (hC:Ext w wx)=>qh (Av (r:=decide (Bu p=0)) (Be (hy.ext hC)) rfl);have hz4:=fun (wx:World) (hC:Ext w wx)=>qh (Av (r:=decide (Bu q=0)) (Be (hy'.ext hC)) rfl);have hcn1:=fun (wx:World) (hC:Ext w wx) (dv:Value) (hdv:Ax wx dv (q.den:Int))=>qh (JS (hT.ext hC) (AX HS (hx.ext hC)) hdv (Ag b1 (by omega)) (Ag b4 (by omega)) q.den_nz);have hcn2:=fun (wx:World) (hC:Ext w wx) (dv:Value) (hdv:Ax wx dv (p.den:Int))=>qh (JS (hT.ext hC) (AX HS' (hx'.ext hC)) hdv (Ag b3 (by omega)) (Ag b2 (by omega)) p.den_nz)
 obtain ⟨hm1,hm2⟩:=Pl.rat_mul_parts p q;have e1:(p.num.tdiv ((Nat.gcd p.num.natAbs q.den:Nat):Int)).natAbs<P2 2400:=by rw [Int.natAbs_tdiv]; exact Nat.lt_of_le_of_lt (Nat.div_le_self _ _) b1
 have e2:(q.num.tdiv ((Nat.gcd q.num.natAbs p.den:Nat):Int)).natAbs<P2 2400:=by rw [Int.natAbs_tdiv]; exact Nat.lt_of_le_of_lt (Nat.div_le_self _ _) b3
 have e3:(((q.den/Nat.gcd p.num.natAbs q.den:Nat):Int)).natAbs<P2 2400:=Nat.lt_of_le_of_lt (Nat.div_le_self _ _) b4;have e4:(((p.den/Nat.gcd q.num.natAbs p.den:Nat):Int)).natAbs<P2 2400:=Nat.lt_of_le_of_lt (Nat.div_le_self _ _) b2;have hml1:=fun (wx:World) (x1 x2:Value) (h1:Ax wx x1 (p.num.tdiv ((Nat.gcd p.num.natAbs q.den:Nat):Int))) (h2:Ax wx x2 (q.num.tdiv ((Nat.gcd q.num.natAbs p.den:Nat):Int)))=>qh (CB h1 h2 (Ag e1 (by omega)) (Ag e2 (by omega)) (Or.inl (Ag e1 (by omega))))
 have hml2:=fun (wx:World) (x1 x2:Value) (h1:Ax wx x1 ((p.den/Nat.gcd q.num.natAbs p.den:Nat):Int)) (h2:Ax wx x2 ((q.den/Nat.gcd p.num.natAbs q.den:Nat):Int))=>qh (CB h1 h2 (Ag e4 (by omega)) (Ag e3 (by omega)) (Or.inl (Ag e4 (by omega))));rw [←Int.natCast_mul,←hm2] at hml2;rw [←hm1] at hml1;have hdd:(decide (Bu p=0) && decide (Bu q=0))=false:=by
  rcases hd with h|h
  · rw [decide_eq_false (mt AE.1 h)]; rfl
  · rw [decide_eq_false (mt AE.1 h),Bool.and_false]
 clear b1 b2 b3 b4 hp0 hq0 hd hm1 hm2 e1 e2 e3 e4
 go_enter func62,ntmps62
 go_upto_region 1 with (fail)
 refine F3 ?_;intro w0 hE0 hB0 hB1 hB2 hz0;have p0:=hB0.c 0 rfl;have p1:=hB0.c 1 rfl;have p2:=hB0.c 2 rfl;have p3:=hB0.c 3 rfl;have q0:=hB1.c 0 rfl;have q1:=hB1.c 1 rfl;have q2:=hB1.c 2 rfl;have q3:=hB1.c 3 rfl;have hR:Arr w0 (w.heap.size+2) 97 (An false none 0 0 false none 0 0):=hB2;clear hz0
 go_wp2_with fail
 refine (hz1 _ hE0).out.mono ?_;rintro e w1 ⟨rfl,hE1⟩;have r0:=hE1.cell q0;have r1:=hE1.cell q1
 go_wp2_with fail
 refine (hz2 _ (hE0.trans hE1)).out.mono ?_;rintro e w2 ⟨rfl,hE2⟩;have hE02:=hE1.trans hE2;have t2:=hE02.cell p2;have t3:=hE02.cell p3;clear r0 r1
 go_wp2_with fail
 refine (hz3 _ (hE0.trans hE02)).out.mono ?_;rintro e w3 ⟨rfl,hE3⟩;have hE03:=hE02.trans hE3;clear t2 t3;have hgo:∃ w4:World,True:=⟨w3,trivial⟩;by_cases hpz:decide (Bu p=0)=true
 case' pos =>
  rw [hpz] at hdd ⊢;have t2:=hE03.cell q2;have t3:=hE03.cell q3;have hdq:decide (Bu q=0)=false:=by simpa using hdd
  rw [hdq] at hz4;clear hpz hdq hdd hgo
  go_wp2_with fail
  refine (hz4 _ (hE0.trans hE03)).out.mono ?_;rintro e w4 ⟨rfl,hE4⟩;have hE04:=hE03.trans hE4;clear t2 t3
 case' neg =>
  have hpf:decide (Bu p=0)=false:=by simpa using hpz
  rw [hpf];obtain ⟨w4,hw4⟩:∃ w4,w4=w3:=⟨_,rfl⟩;subst hw4;have hE04:=hE03;clear hpz hpf hdd hgo
 all_goals
  have r0:=hE04.cell p0;have r1:=hE04.cell p1;have r2:=hE04.cell p2;have r3:=hE04.cell p3;have u0:=hE04.cell q0;have u1:=hE04.cell q1;have u2:=hE04.cell q2;have u3:=hE04.cell q3;have hEw:=hE0.trans hE04;have hRw:=hR.ext hE04;clear p0 p1 p2 p3 q0 q1 q2 q3 hz1 hz2 hz3 hz4;go_wp2;have HF1:=fun (wx:World) (hC:Ext w4 wx)=>qh (And.intro (hC.cell r0) (And.intro (hC.cell r1) (And.intro (hC.cell r2) (And.intro (hC.cell r3) (And.intro (hC.cell u0) (And.intro (hC.cell u1) (And.intro (hC.cell u2) (hC.cell u3))))))))
  refine DP (by kernel_rfl) (fun wx=>Ext w4 wx)
   [he (.pointer (some ⟨w.heap.size,0,none⟩)),
 he (.agg #[.bool s, .slice a n c]),
 he (.agg #[.bool s', .slice a' n' c', .bool false, .slice b' m' d']),
 hp (fun v wx=>NI ((q.den:Int)) v wx),
 hp (fun v wx=>NII (p.num.tdiv ((Nat.gcd p.num.natAbs q.den:Nat):Int)) (((q.den/Nat.gcd p.num.natAbs q.den:Nat):Int)) v wx),
 hp (fun v wx=>NII (p.num.tdiv ((Nat.gcd p.num.natAbs q.den:Nat):Int)) (((q.den/Nat.gcd p.num.natAbs q.den:Nat):Int)) v wx),
 hp (fun v wx=>NI (p.num.tdiv ((Nat.gcd p.num.natAbs q.den:Nat):Int)) v wx),
 hp (fun v wx=>NI (((q.den/Nat.gcd p.num.natAbs q.den:Nat):Int)) v wx),
 hp (NP w4.heap.size),
 hp (NP w4.heap.size),
 hmp (fun _ _=>True)]
   (by kernel_rfl) (fun _ _ e h=>h.trans e) ((Ext.refl w4).drew) ⟨trivial,trivial,trivial,NI.x _,NII.x _ _,NII.x _ _,NI.x _,NI.x _,NP.x _,NP.x _,NT.x,trivial⟩ ⟨?o0, ?o1, ?o2, ?o3, ?o4, ?o5, ?o6, ?o7, ?o8, ?o9, ?o10,trivial⟩ 8 9 10 6 90 (Ab false none 0 0) ⟨by simp,by simp,by simp,by simp⟩ (by omega) ?hk ?hs1 ?hp1 ?hnm Ad ?hj1 ?fin
  case o0=>exact ofa (d:=0) rfl rfl (fun _ _=>id) (by kernel_rfl) rfl
  case o1=>exact ol2 rfl rfl (fun _ _=>id) ⟨by kernel_rfl,by kernel_rfl⟩ (by assumption) (by assumption)
  case o2=>exact ol4 rfl rfl (fun _ _=>id) ⟨by kernel_rfl,by kernel_rfl⟩ (by assumption) (by assumption) (by assumption) (by assumption)
  case o3 =>
   refine Aj rfl fun ρ wx hC hcst hfn h => ?_;have e1:ρ (.tmp 35)=(.agg #[.bool s', .slice a' n' c', .bool false, .slice b' m' d']):=h.2.1;obtain ⟨k0,k1,k2,k3,k4,k5,k6,k7⟩:=(HF1 wx hC).out;refine ⟨99,#[.agg #[.bool s', .slice a' n' c', .bool false, .slice b' m' d']],by go_simp,((hdn2 wx (hEw.trans hC)).out).mono ?_⟩;rintro e w' ⟨s',a',n',c',rfl,hE',hs',hn'⟩;exact ⟨_,rfl,hE',s',a',n',c',rfl,hs',hn'⟩
  case o4 =>
   refine Aj rfl fun ρ wx hC hcst hfn h => ?_;have e1:ρ (.tmp 34)=(.agg #[.bool s, .slice a n c]):=h.2.1;obtain ⟨v2,e2,s2,a2,n2,c2,rfl,i2,j2⟩:=h.2.2.1;obtain ⟨k0,k1,k2,k3,k4,k5,k6,k7⟩:=(HF1 wx hC).out;refine ⟨114,#[.agg #[.bool s, .slice a n c], .agg (Ab s2 a2 n2 c2).toArray],by go_simp,((hcn1 wx (hEw.trans hC) _ ⟨s2,a2,n2,c2,rfl,i2,j2⟩).out).mono ?_⟩;rintro e w' ⟨s',a',n',c',t',b',m',d',rfl,hE',h1,h2⟩;exact ⟨_,rfl,hE',s',a',n',c',t',b',m',d',rfl,h1,h2⟩
  case o5 =>
   refine Bc rfl ?_;intro ρ wx hp hC h;have hcst:=hp.const;have hfn:=hp.func;obtain ⟨v0,e0,s0,a0,n0,c0,t0,b0,m0,d0,rfl,i0,j0⟩:=h.1;obtain ⟨k0,k1,k2,k3,k4,k5,k6,k7⟩:=(HF1 wx hC).out;exact ⟨_,wx,by go_simp,Ext.refl _,s0,a0,n0,c0,t0,b0,m0,d0,rfl,i0,j0⟩
  case o6 =>
   refine Bc rfl ?_;intro ρ wx hp hC h;have hcst:=hp.const;have hfn:=hp.func;obtain ⟨v0,e0,s0,a0,n0,c0,t0,b0,m0,d0,rfl,i0,j0⟩:=h.1;obtain ⟨k0,k1,k2,k3,k4,k5,k6,k7⟩:=(HF1 wx hC).out;exact ⟨_,wx,by go_simp,Ext.refl _,s0,a0,n0,c0,rfl,i0.1,i0.2⟩
  case o7 =>
   refine Bc rfl ?_;intro ρ wx hp hC h;have hcst:=hp.const;have hfn:=hp.func;obtain ⟨v0,e0,s0,a0,n0,c0,t0,b0,m0,d0,rfl,i0,j0⟩:=h.1;obtain ⟨k0,k1,k2,k3,k4,k5,k6,k7⟩:=(HF1 wx hC).out;exact ⟨_,wx,by go_simp,Ext.refl _,t0,b0,m0,d0,rfl,j0.1,j0.2⟩
  case o8 =>
   exact CH rfl rfl (fun _ h=>h.size)
  case o9 =>
   exact CH rfl rfl (fun _ h=>h.size)
  case o10 =>
   exact Gr (base:=w4.heap.size) (z:=p.num.tdiv ((Nat.gcd p.num.natAbs q.den:Nat):Int)) rfl rfl ⟨trivial,trivial,trivial,NI.i _,NII.i _ _,NII.i _ _,NI.i _,NI.i _,NP.i _,NP.i _,NT.i,trivial⟩ (fun w w' g h hb hg=>h.grownR hg hb) (fun ρ w _ _ h=>⟨h.1,h.2.1⟩)
  case hk =>
   rintro k (rfl|rfl) o ho
   · cases ho; exact ⟨rfl,rfl,fun ρ wx=>CG rfl ρ wx⟩
   · cases ho; exact ⟨rfl,rfl,fun ρ wx=>CG rfl ρ wx⟩
  case hs1 =>
   intro o ho;cases ho;exact ⟨rfl,rfl,_,_,rfl,rfl,rfl⟩
  case hp1=>exact ⟨List.contains_iff_mem.1 (by kernel_rfl),List.contains_iff_mem.1 (by kernel_rfl)⟩
  case hnm =>
   intro i hi hne;simp only [List.length_cons,List.length_nil] at hi
   match i,hi,hne with
   | 0,_,_=>rfl
   | 1,_,_=>rfl
   | 2,_,_=>rfl
   | 3,_,_=>rfl
   | 4,_,_=>rfl
   | 5,_,_=>rfl
   | 6,_,_=>rfl
   | 7,_,_=>rfl
   | 8,_,_=>rfl
   | 9,_,_=>rfl
   | 10,_,hne=>exact absurd rfl hne
  case hj1 =>
   refine ⟨rfl,fun v w h => ?_⟩;obtain ⟨s,a,n,c,rfl,_,_⟩:=h;exact ⟨Ab s a n c,rfl,rfl,Ai _ _ _ _⟩
  case fin =>
   intro wx hC;rintro _ ⟨s91,a91,n91,c91,rfl,HS91,hx91⟩;rintro _ ⟨_,_,_,_,_,_,_,_,rfl,_,_⟩;rintro _ ⟨_,_,_,_,_,_,_,_,rfl,_,_⟩;rintro _ ⟨s5,a5,n5,c5,rfl,HS5,hx5⟩;rintro _ ⟨s6,a6,n6,c6,rfl,HS6,hx6⟩;rintro _ ⟨g5,cs5,rfl,_,_,_,_⟩;rintro _ ⟨g6,cs6,rfl,_,_,_,_⟩;rintro _ _;simp only [List.length_cons,List.length_nil,List.drop_succ_cons,List.drop_zero,Act.put,List.setIfInBounds_toArray,List.set_cons_succ,List.set_cons_zero,AP,AY,List.getElem?_toArray,List.getElem?_cons_succ,List.getElem?_cons_zero,Option.bind_some];rintro ⟨ga,gb,csx,e1,e2,l5,l6,hne,e3,hA1,hA2⟩
   have e1':Value.pointer (some ⟨g5,0,none⟩) = .pointer (some ⟨ga,0,none⟩):=e1;have e2':Value.pointer (some ⟨g6,0,none⟩) = .pointer (some ⟨gb,0,none⟩):=e2;have e3':Value.agg (Ab s5 a5 n5 c5).toArray = .agg csx.toArray:=e3;simp only [Value.pointer.injEq,Option.some.injEq,Addr.mk.injEq,and_true] at e1' e2';have e4:csx=Ab s5 a5 n5 c5:=by simpa using e3'.symm
   subst e1'; subst e2'; subst e4;clear e1 e2 e3 e3';change wpList _ _ _ _ _ _
   go_upto_region 6 with (refine Aa (vs:=Ab s6 a6 n6 c6) rfl rfl rfl rfl rfl Ad hA2 rfl (Ai _ _ _ _) ?_; intro w6 hB6 hg6)
   have hE6:Ext w4 w6:=hC.grownR hg6 l6;have hN5:=hA1.kept hg6 (by simpa using hne);have hX5:=hx5.kept hA2 (Aq _ _ _ _) hg6;have hX6:=hx6.kept hA2 (Aq _ _ _ _) hg6;clear hA1 hA2 hne hC hx5 hx6 hg6;have hEw6:=hEw.trans hE6;have y0:=hE6.cell r0;have y1:=hE6.cell r1;have y2:=hE6.cell r2;have y3:=hE6.cell r3;have v0:=hE6.cell u0;have v1:=hE6.cell u1;have v2:=hE6.cell u2;have v3:=hE6.cell u3;have hRw6:=hRw.ext hE6
   have HF2:=fun (wx:World) (hC:Ext w6 wx)=>qh (And.intro (hC.cell y0) (And.intro (hC.cell y1) (And.intro (hC.cell y2) (And.intro (hC.cell y3) (And.intro (hC.cell v0) (And.intro (hC.cell v1) (And.intro (hC.cell v2) (hC.cell v3))))))))
   refine DP (by kernel_rfl) (fun wx=>Ext w6 wx)
    [he (.pointer (some ⟨(w.heap.size+1),0,none⟩)),
 he (.agg #[.bool s', .slice a' n' c']),
 he (.agg #[.bool s, .slice a n c, .bool false, .slice b m d]),
 hp (fun v wx=>NI ((p.den:Int)) v wx),
 hp (fun v wx=>NII (q.num.tdiv ((Nat.gcd q.num.natAbs p.den:Nat):Int)) (((p.den/Nat.gcd q.num.natAbs p.den:Nat):Int)) v wx),
 hp (fun v wx=>NII (q.num.tdiv ((Nat.gcd q.num.natAbs p.den:Nat):Int)) (((p.den/Nat.gcd q.num.natAbs p.den:Nat):Int)) v wx),
 hp (fun v wx=>NI (q.num.tdiv ((Nat.gcd q.num.natAbs p.den:Nat):Int)) v wx),
 hp (fun v wx=>NI (((p.den/Nat.gcd q.num.natAbs p.den:Nat):Int)) v wx),
 hp (NP w6.heap.size),
 hp (NP w6.heap.size),
 hmp (fun _ _=>True)]
    (by kernel_rfl) (fun _ _ e h=>h.trans e) ((Ext.refl w6).drew) ⟨trivial,trivial,trivial,NI.x _,NII.x _ _,NII.x _ _,NI.x _,NI.x _,NP.x _,NP.x _,NT.x,trivial⟩ ⟨?o0, ?o1, ?o2, ?o3, ?o4, ?o5, ?o6, ?o7, ?o8, ?o9, ?o10,trivial⟩ 8 9 10 6 90 (Ab false none 0 0) ⟨by simp,by simp,by simp,by simp⟩ (by omega) ?hk ?hs1 ?hp1 ?hnm Ad ?hj1 ?fin
   case o0=>exact ofa (d:=0) rfl rfl (fun _ _=>id) (by kernel_rfl) rfl
   case o1=>exact ol2 rfl rfl (fun _ _=>id) ⟨by kernel_rfl,by kernel_rfl⟩ (by assumption) (by assumption)
   case o2=>exact ol4 rfl rfl (fun _ _=>id) ⟨by kernel_rfl,by kernel_rfl⟩ (by assumption) (by assumption) (by assumption) (by assumption)
   case o3 =>
    refine Aj rfl fun ρ wx hC hcst hfn h => ?_;have e1:ρ (.tmp 43)=(.agg #[.bool s, .slice a n c, .bool false, .slice b m d]):=h.2.1;obtain ⟨k0,k1,k2,k3,k4,k5,k6,k7⟩:=(HF2 wx hC).out;refine ⟨99,#[.agg #[.bool s, .slice a n c, .bool false, .slice b m d]],by go_simp,((hdn1 wx (hEw6.trans hC)).out).mono ?_⟩;rintro e w' ⟨s',a',n',c',rfl,hE',hs',hn'⟩;exact ⟨_,rfl,hE',s',a',n',c',rfl,hs',hn'⟩
   case o4 =>
    refine Aj rfl fun ρ wx hC hcst hfn h => ?_;have e1:ρ (.tmp 42)=(.agg #[.bool s', .slice a' n' c']):=h.2.1;obtain ⟨v2,e2,s2,a2,n2,c2,rfl,i2,j2⟩:=h.2.2.1;obtain ⟨k0,k1,k2,k3,k4,k5,k6,k7⟩:=(HF2 wx hC).out;refine ⟨114,#[.agg #[.bool s', .slice a' n' c'], .agg (Ab s2 a2 n2 c2).toArray],by go_simp,((hcn2 wx (hEw6.trans hC) _ ⟨s2,a2,n2,c2,rfl,i2,j2⟩).out).mono ?_⟩;rintro e w' ⟨s',a',n',c',t',b',m',d',rfl,hE',h1,h2⟩;exact ⟨_,rfl,hE',s',a',n',c',t',b',m',d',rfl,h1,h2⟩
   case o5 =>
    refine Bc rfl ?_;intro ρ wx hp hC h;have hcst:=hp.const;have hfn:=hp.func;obtain ⟨v0,e0,s0,a0,n0,c0,t0,b0,m0,d0,rfl,i0,j0⟩:=h.1;obtain ⟨k0,k1,k2,k3,k4,k5,k6,k7⟩:=(HF2 wx hC).out;exact ⟨_,wx,by go_simp,Ext.refl _,s0,a0,n0,c0,t0,b0,m0,d0,rfl,i0,j0⟩
   case o6 =>
    refine Bc rfl ?_;intro ρ wx hp hC h;have hcst:=hp.const;have hfn:=hp.func;obtain ⟨v0,e0,s0,a0,n0,c0,t0,b0,m0,d0,rfl,i0,j0⟩:=h.1;obtain ⟨k0,k1,k2,k3,k4,k5,k6,k7⟩:=(HF2 wx hC).out;exact ⟨_,wx,by go_simp,Ext.refl _,s0,a0,n0,c0,rfl,i0.1,i0.2⟩
   case o7 =>
    refine Bc rfl ?_;intro ρ wx hp hC h;have hcst:=hp.const;have hfn:=hp.func;obtain ⟨v0,e0,s0,a0,n0,c0,t0,b0,m0,d0,rfl,i0,j0⟩:=h.1;obtain ⟨k0,k1,k2,k3,k4,k5,k6,k7⟩:=(HF2 wx hC).out;exact ⟨_,wx,by go_simp,Ext.refl _,t0,b0,m0,d0,rfl,j0.1,j0.2⟩
   case o8 =>
    exact CH rfl rfl (fun _ h=>h.size)
   case o9 =>
    exact CH rfl rfl (fun _ h=>h.size)
   case o10 =>
    exact Gr (base:=w6.heap.size) (z:=q.num.tdiv ((Nat.gcd q.num.natAbs p.den:Nat):Int)) rfl rfl ⟨trivial,trivial,trivial,NI.i _,NII.i _ _,NII.i _ _,NI.i _,NI.i _,NP.i _,NP.i _,NT.i,trivial⟩ (fun w w' g h hb hg=>h.grownR hg hb) (fun ρ w _ _ h=>⟨h.1,h.2.1⟩)
   case hk =>
    rintro k (rfl|rfl) o ho
    · cases ho; exact ⟨rfl,rfl,fun ρ wx=>CG rfl ρ wx⟩
    · cases ho; exact ⟨rfl,rfl,fun ρ wx=>CG rfl ρ wx⟩
   case hs1 =>
    intro o ho;cases ho;exact ⟨rfl,rfl,_,_,rfl,rfl,rfl⟩
   case hp1=>exact ⟨List.contains_iff_mem.1 (by kernel_rfl),List.contains_iff_mem.1 (by kernel_rfl)⟩
   case hnm =>
    intro i hi hne;simp only [List.length_cons,List.length_nil] at hi
    match i,hi,hne with
    | 0,_,_=>rfl
    | 1,_,_=>rfl
    | 2,_,_=>rfl
    | 3,_,_=>rfl
    | 4,_,_=>rfl
    | 5,_,_=>rfl
    | 6,_,_=>rfl
    | 7,_,_=>rfl
    | 8,_,_=>rfl
    | 9,_,_=>rfl
    | 10,_,hne=>exact absurd rfl hne
   case hj1 =>
    refine ⟨rfl,fun v w h => ?_⟩;obtain ⟨s,a,n,c,rfl,_,_⟩:=h;exact ⟨Ab s a n c,rfl,rfl,Ai _ _ _ _⟩
   case fin =>
    intro wx hC;rintro _ ⟨s92,a92,n92,c92,rfl,HS92,hx92⟩;rintro _ ⟨_,_,_,_,_,_,_,_,rfl,_,_⟩;rintro _ ⟨_,_,_,_,_,_,_,_,rfl,_,_⟩;rintro _ ⟨s7,a7,n7,c7,rfl,HS7,hx7⟩;rintro _ ⟨s8,a8,n8,c8,rfl,HS8,hx8⟩;rintro _ ⟨g7,cs7,rfl,_,_,_,_⟩;rintro _ ⟨g8,cs8,rfl,_,_,_,_⟩;rintro _ _;simp only [List.length_cons,List.length_nil,List.drop_succ_cons,List.drop_zero,Act.put,List.setIfInBounds_toArray,List.set_cons_succ,List.set_cons_zero,AP,AY,List.getElem?_toArray,List.getElem?_cons_succ,List.getElem?_cons_zero,Option.bind_some];rintro ⟨ga,gb,csx,e1,e2,l7,l8,hne,e3,hA1,hA2⟩
    have e1':Value.pointer (some ⟨g7,0,none⟩) = .pointer (some ⟨ga,0,none⟩):=e1;have e2':Value.pointer (some ⟨g8,0,none⟩) = .pointer (some ⟨gb,0,none⟩):=e2;have e3':Value.agg (Ab s7 a7 n7 c7).toArray = .agg csx.toArray:=e3;simp only [Value.pointer.injEq,Option.some.injEq,Addr.mk.injEq,and_true] at e1' e2';have e4:csx=Ab s7 a7 n7 c7:=by simpa using e3'.symm
    subst e1'; subst e2'; subst e4;clear e1 e2 e3 e3';change wpList _ _ _ _ _ _
    go_upto_region 7 with (refine Aa (vs:=Ab s8 a8 n8 c8) rfl rfl rfl rfl rfl Ad hA2 rfl (Ai _ _ _ _) ?_; intro w8 hB8 hg8)
    have hE8:Ext w6 w8:=hC.grownR hg8 l8;have hN7:=hA1.kept hg8 (by simpa using hne);have hX7:=hx7.kept hA2 (Aq _ _ _ _) hg8;have hX8:=hx8.kept hA2 (Aq _ _ _ _) hg8;clear hA1 hA2 hne hC hx7 hx8 hg8;have hEw8:=hEw6.trans hE8;have hRw8:=hRw6.ext hE8;have hM5:Arr w8 g5 90 (Ab s5 a5 n5 c5):=hN5.ext hE8;have x50:=hM5.c 0 rfl;have x51:=hM5.c 1 rfl;have hM6:Arr w8 g6 90 (Ab s6 a6 n6 c6):=hB6.ext hE8;have x60:=hM6.c 0 rfl;have x61:=hM6.c 1 rfl;have hM7:Arr w8 g7 90 (Ab s7 a7 n7 c7):=hN7;have x70:=hM7.c 0 rfl;have x71:=hM7.c 1 rfl;have hM8:Arr w8 g8 90 (Ab s8 a8 n8 c8):=hB8
    have x80:=hM8.c 0 rfl;have x81:=hM8.c 1 rfl;have i5:Ax w8 (.agg (Ab s5 a5 n5 c5).toArray) (p.num.tdiv ((Nat.gcd p.num.natAbs q.den:Nat):Int)):=⟨s5,a5,n5,c5,rfl,HS5,hX5.ext hE8⟩;have i6:Ax w8 (.agg (Ab s6 a6 n6 c6).toArray) (((q.den/Nat.gcd p.num.natAbs q.den:Nat):Int)):=⟨s6,a6,n6,c6,rfl,HS6,hX6.ext hE8⟩;have i7:Ax w8 (.agg (Ab s7 a7 n7 c7).toArray) (q.num.tdiv ((Nat.gcd q.num.natAbs p.den:Nat):Int)):=⟨s7,a7,n7,c7,rfl,HS7,hX7⟩;have i8:Ax w8 (.agg (Ab s8 a8 n8 c8).toArray) (((p.den/Nat.gcd q.num.natAbs p.den:Nat):Int)):=⟨s8,a8,n8,c8,rfl,HS8,hX8⟩
    have HF3:=fun (wx:World) (hC:Ext w8 wx)=>qh (And.intro (hC.cell x50) (And.intro (hC.cell x51) (And.intro (hC.cell x60) (And.intro (hC.cell x61) (And.intro (hC.cell x70) (And.intro (hC.cell x71) (And.intro (hC.cell x80) (hC.cell x81))))))))
    refine Af (by kernel_rfl) (fun wx=>Ext w8 wx)
     [he (.agg #[.bool s5, .slice a5 n5 c5]),
 he (.agg #[.bool s7, .slice a7 n7 c7]),
 hp (fun v wx=>NI ((p*q).num) v wx),
 he (.agg #[.bool s8, .slice a8 n8 c8]),
 he (.agg #[.bool s6, .slice a6 n6 c6]),
 hp (fun v wx=>NI (((p*q).den:Int)) v wx),
 hp (fun v wx=>∃ cs,v = .agg cs.toArray∧DD wx cs (p*q))]
     (by kernel_rfl) (fun _ _ e h=>h.trans e) ((Ext.refl w8).drew) ⟨trivial,trivial,NI.x _,trivial,trivial,NI.x _,fun v w w' e ⟨cs,h1,h2⟩=>⟨cs,h1,h2.ext e⟩,trivial⟩ ⟨?o0, ?o1, ?o2, ?o3, ?o4, ?o5, ?o6,trivial⟩ ?fin
    case o0=>exact ol2 rfl rfl (fun _ _=>id) ⟨by kernel_rfl,by kernel_rfl⟩ (by assumption) (by assumption)
    case o1=>exact ol2 rfl rfl (fun _ _=>id) ⟨by kernel_rfl,by kernel_rfl⟩ (by assumption) (by assumption)
    case o2 =>
     refine Aj rfl fun ρ wx hC hcst hfn h => ?_;have e1:ρ (.tmp 48)=(.agg #[.bool s5, .slice a5 n5 c5]):=h.2.1;have e2:ρ (.tmp 49)=(.agg #[.bool s7, .slice a7 n7 c7]):=h.2.2.1;obtain ⟨z50,z51,z60,z61,z70,z71,z80,z81⟩:=(HF3 wx hC).out;refine ⟨98,#[.agg #[.bool s5, .slice a5 n5 c5], .agg #[.bool s7, .slice a7 n7 c7]],by go_simp,((hml1 wx _ _ (i5.ext hC) (i7.ext hC)).out).mono ?_⟩;rintro e w' ⟨s',a',n',c',rfl,hE',hs',hn'⟩;exact ⟨_,rfl,hE',s',a',n',c',rfl,hs',hn'⟩
    case o3=>exact ol2 rfl rfl (fun _ _=>id) ⟨by kernel_rfl,by kernel_rfl⟩ (by assumption) (by assumption)
    case o4=>exact ol2 rfl rfl (fun _ _=>id) ⟨by kernel_rfl,by kernel_rfl⟩ (by assumption) (by assumption)
    case o5 =>
     refine Aj rfl fun ρ wx hC hcst hfn h => ?_;have e1:ρ (.tmp 51)=(.agg #[.bool s8, .slice a8 n8 c8]):=h.2.1;have e2:ρ (.tmp 52)=(.agg #[.bool s6, .slice a6 n6 c6]):=h.2.2.1;obtain ⟨z50,z51,z60,z61,z70,z71,z80,z81⟩:=(HF3 wx hC).out;refine ⟨98,#[.agg #[.bool s8, .slice a8 n8 c8], .agg #[.bool s6, .slice a6 n6 c6]],by go_simp,((hml2 wx _ _ (i8.ext hC) (i6.ext hC)).out).mono ?_⟩;rintro e w' ⟨s',a',n',c',rfl,hE',hs',hn'⟩;exact ⟨_,rfl,hE',s',a',n',c',rfl,hs',hn'⟩
    case o6 =>
     refine Aj rfl fun ρ wx hC hcst hfn h => ?_;obtain ⟨v1,e1,s1,a1,n1,c1,rfl,i1,j1⟩:=h.2.1;obtain ⟨v2,e2,s2,a2,n2,c2,rfl,i2,j2⟩:=h.2.2.1;obtain ⟨z50,z51,z60,z61,z70,z71,z80,z81⟩:=(HF3 wx hC).out;refine ⟨115,#[.agg (Ab s1 a1 n1 c1).toArray, .agg (Ab s2 a2 n2 c2).toArray],by go_simp,(CF (q:=p*q) ⟨s1,a1,n1,c1,rfl,i1,j1⟩ ⟨s2,a2,n2,c2,rfl,i2,j2⟩).mono ?_⟩;rintro e w' ⟨cs,rfl,hE',hr'⟩;exact ⟨_,rfl,hE',cs,rfl,hr'⟩
    case fin =>
     intro wx hC;rintro _ ⟨s93,a93,n93,c93,rfl,HS93,hx93⟩;rintro _ ⟨s94,a94,n94,c94,rfl,HS94,hx94⟩;rintro _ ⟨_,rfl,s9,a9,n9,c9,b9,m9,d9,rfl,HS9,hx9,hy9⟩;change wpList _ _ _ _ _ _;simp only [List.length_cons,List.length_nil,List.drop_succ_cons,List.drop_zero,Act.put,List.setIfInBounds_toArray,List.set_cons_succ,List.set_cons_zero];have hR1:=hRw8.ext hC;have hl9:(An s9 a9 n9 c9 false b9 m9 d9).toArray=#[.bool s9, .slice a9 n9 c9, .bool false, .slice b9 m9 d9]:=rfl
     go_wp2_with (refine Aa (vs:=An s9 a9 n9 c9 false b9 m9 d9) rfl rfl rfl rfl rfl Ac hR1 rfl (Ap _ _ _ _ _ _ _ _) ?_; intro w9 hB9 hg9)
     exact bodyPost_ret (Al rfl Ac rfl hB9) rfl (Bf (hEw8.trans hC) hR1 (AC _ _ _ _ _ _ _ _) hg9 (by omega) HS9 hx9 hy9)
theorem GV (h:BB w v p) (h':BB w v' q) (h0:p=0∨q=0):Calls prog 62 #[v,v'] w (F4 w (p*q)):=by
 obtain ⟨_,rfl,s,a,n,c,b,m,d,rfl,HS,hx,hy⟩:=h;obtain ⟨_,rfl,s',a',n',c',b',m',d',rfl,HS',hx',hy'⟩:=h';have hz1:=fun (wx:World) (hC:Ext w wx)=>qh (Av (r:=decide (p.num=0)) (AX HS (hx.ext hC)) rfl);have hz2:=fun (wx:World) (hC:Ext w wx)=>qh (Av (r:=decide (q.num=0)) (AX HS' (hx'.ext hC)) rfl);have HPQ:Hid (p*q=0):=by
  show _=_;rcases h0 with h|h
  · rw [h,Rat.zero_mul]
  · rw [h,Rat.mul_zero]
 go_enter func62,ntmps62
 go_upto_region 1 with (fail)
 refine F3 ?_;intro w0 hE0 hB0 hB1 hB2 hz0;have p0:=hB0.c 0 rfl;have p1:=hB0.c 1 rfl;have p2:=hB0.c 2 rfl;have p3:=hB0.c 3 rfl;have q0:=hB1.c 0 rfl;have q1:=hB1.c 1 rfl;have q2:=hB1.c 2 rfl;have q3:=hB1.c 3 rfl;have hR:Arr w0 (w.heap.size+2) 97 (An false none 0 0 false none 0 0):=hB2;clear hz0
 go_wp2_with fail
 refine (hz1 _ hE0).out.mono ?_;rintro e w1 ⟨rfl,hE1⟩;by_cases hpz:p.num=0
 · rw [decide_eq_true hpz];have hR1:=hR.ext hE1;clear hpz h0
   go_wp2_with (refine Aa (vs:=An false none 0 0 false none 0 0) rfl rfl rfl rfl rfl Ac hR1 rfl (Ap _ _ _ _ _ _ _ _) ?_; intro w9 hB9 hg9)
   refine bodyPost_ret (Al rfl Ac rfl hB9) rfl ?_;rw [HPQ.out];exact Bf (hE0.trans hE1) hR1 (AC _ _ _ _ _ _ _ _) hg9 (by omega) (qh rfl) (Wd.nil _) (Wd.nil _)
 · rw [decide_eq_false hpz];have hq:q.num=0:=by
    rcases h0 with h|h
    · exact absurd (Pl.rat_num_den_zero.2 h) hpz
    · exact Pl.rat_num_den_zero.2 h
   rw [decide_eq_true hq] at hz2;have r0:=hE1.cell q0;have r1:=hE1.cell q1;clear hpz h0 hq
   go_wp2_with fail
   refine (hz2 _ (hE0.trans hE1)).out.mono ?_;rintro e w2 ⟨rfl,hE2⟩;have hR1:=(hR.ext hE1).ext hE2
   go_wp2_with (refine Aa (vs:=An false none 0 0 false none 0 0) rfl rfl rfl rfl rfl Ac hR1 rfl (Ap _ _ _ _ _ _ _ _) ?_; intro w9 hB9 hg9)
   refine bodyPost_ret (Al rfl Ac rfl hB9) rfl ?_;rw [HPQ.out];exact Bf ((hE0.trans hE1).trans hE2) hR1 (AC _ _ _ _ _ _ _ _) hg9 (by omega) (qh rfl) (Wd.nil _) (Wd.nil _)
theorem KY (h:BB w v p) (h':BB w v' q) (b1:p.num.natAbs<P2 2400) (b3:q.num.natAbs<P2 2400) (hp0:p≠0) (hq0:q≠0) (d1:p.den=1) (d2:q.den=1):Calls prog 62 #[v,v'] w (F4 w (p*q)):=by
 obtain ⟨_,rfl,s,a,n,c,b,m,d,rfl,HS,hx,hy⟩:=h;obtain ⟨_,rfl,s',a',n',c',b',m',d',rfl,HS',hx',hy'⟩:=h';have hz1:=fun (wx:World) (hC:Ext w wx)=>qh (Av (r:=false) (AX HS (hx.ext hC)) (decide_eq_false (mt Pl.rat_num_den_zero.1 hp0)));have hz2:=fun (wx:World) (hC:Ext w wx)=>qh (Av (r:=false) (AX HS' (hx'.ext hC)) (decide_eq_false (mt Pl.rat_num_den_zero.1 hq0)));have hz3:=fun (wx:World) (hC:Ext w wx)=>qh (Av (r:=true) (Be (hy.ext hC)) (decide_eq_true (AE.2 d1)))
 have hz4:=fun (wx:World) (hC:Ext w wx)=>qh (Av (r:=true) (Be (hy'.ext hC)) (decide_eq_true (AE.2 d2)));have hml:=fun (wx:World) (hC:Ext w wx)=>qh (CB (AX HS (hx.ext hC)) (AX HS' (hx'.ext hC)) (Ag b1 (by omega)) (Ag b3 (by omega)) (Or.inl (Ag b1 (by omega))));have HN:=qh (Pl.rat_mul_whole p q d1 d2);clear b1 b3 hp0 hq0 d1 d2
 go_enter func62,ntmps62
 go_upto_region 1 with (fail)
 refine F3 ?_;intro w0 hE0 hB0 hB1 hB2 hz0;have p0:=hB0.c 0 rfl;have p1:=hB0.c 1 rfl;have p2:=hB0.c 2 rfl;have p3:=hB0.c 3 rfl;have q0:=hB1.c 0 rfl;have q1:=hB1.c 1 rfl;have q2:=hB1.c 2 rfl;have q3:=hB1.c 3 rfl;have hR:Arr w0 (w.heap.size+2) 97 (An false none 0 0 false none 0 0):=hB2;clear hz0
 go_wp2_with fail
 refine (hz1 _ hE0).out.mono ?_;rintro e w1 ⟨rfl,hE1⟩;have r0:=hE1.cell q0;have r1:=hE1.cell q1
 go_wp2_with fail
 refine (hz2 _ (hE0.trans hE1)).out.mono ?_;rintro e w2 ⟨rfl,hE2⟩;have hE02:=hE1.trans hE2;have t2:=hE02.cell p2;have t3:=hE02.cell p3;clear r0 r1
 go_wp2_with fail
 refine (hz3 _ (hE0.trans hE02)).out.mono ?_;rintro e w3 ⟨rfl,hE3⟩;have hE03:=hE02.trans hE3;have r2:=hE03.cell q2;have r3:=hE03.cell q3;clear t2 t3
 go_wp2_with fail
 refine (hz4 _ (hE0.trans hE03)).out.mono ?_;rintro e w4 ⟨rfl,hE4⟩;have hE04:=hE03.trans hE4;have t0:=hE04.cell p0;have t1:=hE04.cell p1;have u0:=hE04.cell q0;have u1:=hE04.cell q1;clear r2 r3
 go_wp2_with fail
 refine (hml _ (hE0.trans hE04)).out.mono ?_;rintro e w5 ⟨s1,a1,n1,c1,rfl,hE5,HS1,hx1⟩;have hl1:(Ab s1 a1 n1 c1).toArray=#[.bool s1, .slice a1 n1 c1]:=rfl;have hR1:=(hR.ext hE04).ext hE5
 go_wp2_with (refine Aa (vs:=An s1 a1 n1 c1 false none 0 0) rfl rfl rfl rfl rfl Ac hR1 rfl (Ap _ _ _ _ _ _ _ _) ?_; intro w9 hB9 hg9)
 exact bodyPost_ret (Al rfl Ac rfl hB9) rfl (Bf ((hE0.trans hE04).trans hE5) hR1 (AC _ _ _ _ _ _ _ _) hg9 (by omega) (by rw [HN.out.1]; exact HS1) (by rw [HN.out.1]; exact hx1) (by rw [AE.2 HN.out.2]; exact Wd.nil _))
theorem TU (hT:A2 w) (h:BB w v p) (h':BB w v' q) (b1:p.num.natAbs<P2 2400) (b2:p.den<P2 2400) (b3:q.num.natAbs<P2 2400) (b4:q.den<P2 2400):Calls prog 62 #[v,v'] w (F4 w (p*q)):=by
 by_cases hp0:p=0
 · exact GV h h' (Or.inl hp0)
 by_cases hq0:q=0
 · exact GV h h' (Or.inr hq0)
 by_cases d1:p.den=1
 · by_cases d2:q.den=1
   · exact KY h h' b1 b3 hp0 hq0 d1 d2
   · exact IA hT h h' b1 b2 b3 b4 hp0 hq0 (Or.inr d2)
 · exact IA hT h h' b1 b2 b3 b4 hp0 hq0 (Or.inl d1)
end Go.Proofs.YtlpgonpfjbhmfaaGreatDoor
