/- Part Gav25. -/
import Derived.Test.YtlpgonpfjbhmfaaGreatDoorGav24
set_option maxRecDepth 100000
set_option maxHeartbeats 100000000
namespace Go.Proofs.YtlpgonpfjbhmfaaGreatDoor
open Tryz Go Go.RowKit
variable {p q:Rat} {v v':Value} {w:World}
theorem Mj (h:p.den=1):(p+q).num=p.num*(q.den:Int)+q.num∧(p+q).den=q.den:=by
 have:=Pl.rat_add_parts p q;rw [h,Nat.gcd_one_left] at this;simpa using this
theorem Sg (h:q.den=1):(p+q).num=q.num*(p.den:Int)+p.num∧(p+q).den=p.den:=by
 rw [Rat.add_comm];exact Mj h
theorem Vc (h:p.den=1) (h':q.den=1):(p+q).num=p.num+q.num∧(p+q).den=1:=by
 have:=Mj (q:=q) h;rw [h'] at this;simpa using this
theorem JU (h:p.den=q.den):Bu p=Bu q:=by unfold Bu; rw [h]
theorem OK (h:BB w v p) (h':BB w v' q) (b1:p.num.natAbs<P2 2400) (b3:q.num.natAbs<P2 2400) (d1:p.den=1) (d2:q.den=1):Calls prog 70 #[v,v'] w (F4 w (p+q)):=by
 obtain ⟨_,rfl,s,a,n,c,b,m,d,rfl,HS,hx,hy⟩:=h;obtain ⟨_,rfl,s',a',n',c',b',m',d',rfl,HS',hx',hy'⟩:=h';have hz3:=fun (wx:World) (hC:Ext w wx)=>qh (Av (r:=true) (Be (hy.ext hC)) (decide_eq_true (AE.2 d1)));have hz4:=fun (wx:World) (hC:Ext w wx)=>qh (Av (r:=true) (Be (hy'.ext hC)) (decide_eq_true (AE.2 d2)));have had:=fun (wx:World) (hC:Ext w wx)=>qh (I5 (AX HS (hx.ext hC)) (AX HS' (hx'.ext hC)) (Ag b1 (by omega)) (Ag b3 (by omega)));have HN:=qh (Vc d1 d2);clear b1 b3 d1 d2
 go_enter func70,ntmps70
 go_upto_region 1 with (fail)
 refine F3 ?_;intro w0 hE0 hB0 hB1 hB2 hz0;have p0:=hB0.c 0 rfl;have p1:=hB0.c 1 rfl;have p2:=hB0.c 2 rfl;have p3:=hB0.c 3 rfl;have q0:=hB1.c 0 rfl;have q1:=hB1.c 1 rfl;have q2:=hB1.c 2 rfl;have q3:=hB1.c 3 rfl;have hR:Arr w0 (w.heap.size+2) 97 (An false none 0 0 false none 0 0):=hB2;clear hz0
 go_wp2_with fail
 refine (hz3 _ hE0).out.mono ?_;rintro e w1 ⟨rfl,hE1⟩;have r2:=hE1.cell q2;have r3:=hE1.cell q3
 go_wp2_with fail
 refine (hz4 _ (hE0.trans hE1)).out.mono ?_;rintro e w2 ⟨rfl,hE2⟩;have hE02:=hE1.trans hE2;have t0:=hE02.cell p0;have t1:=hE02.cell p1;have u0:=hE02.cell q0;have u1:=hE02.cell q1;clear r2 r3
 go_wp2_with fail
 refine (had _ (hE0.trans hE02)).out.mono ?_;rintro e w5 ⟨s1,a1,n1,c1,rfl,hE5,HS1,hx1⟩;have hl1:(Ab s1 a1 n1 c1).toArray=#[.bool s1, .slice a1 n1 c1]:=rfl;have hR1:=(hR.ext hE02).ext hE5
 go_wp2_with (refine Aa (vs:=An s1 a1 n1 c1 false none 0 0) rfl rfl rfl rfl rfl Ac hR1 rfl (Ap _ _ _ _ _ _ _ _) ?_; intro w9 hB9 hg9)
 exact bodyPost_ret (Al rfl Ac rfl hB9) rfl (Bf ((hE0.trans hE02).trans hE5) hR1 (AC _ _ _ _ _ _ _ _) hg9 (by omega) (by rw [HN.out.1]; exact HS1) (by rw [HN.out.1]; exact hx1) (by rw [AE.2 HN.out.2]; exact Wd.nil _))
theorem OL (h:BB w v p) (h':BB w v' q) (b1:p.num.natAbs<P2 2400) (b3:q.num.natAbs<P2 2400) (b4:q.den<P2 2400) (d1:p.den=1) (d2:q.den≠1):Calls prog 70 #[v,v'] w (F4 w (p+q)):=by
 obtain ⟨_,rfl,s,a,n,c,b,m,d,rfl,HS,hx,hy⟩:=h;obtain ⟨_,rfl,s',a',n',c',b',m',d',rfl,HS',hx',hy'⟩:=h';have hz3:=fun (wx:World) (hC:Ext w wx)=>qh (Av (r:=true) (Be (hy.ext hC)) (decide_eq_true (AE.2 d1)));have hz4:=fun (wx:World) (hC:Ext w wx)=>qh (Av (r:=false) (Be (hy'.ext hC)) (decide_eq_false (mt AE.1 d2)));have hml:=fun (wx:World) (hC:Ext w wx)=>qh (CB (AX HS (hx.ext hC)) (Be (hy'.ext hC)) (Ag b1 (by omega)) (by rw [Dk d2]; exact Ag b4 (by omega)) (Or.inl (Ag b1 (by omega))))
 have hmb:(p.num*Bu q).natAbs<P2 9600:=by rw [Int.natAbs_mul,Dk d2]; exact Ag (B0 b1 b4) (by omega)
 have had:=fun (wx:World) (hC:Ext w wx) (x:Value) (hv:Ax wx x (p.num*Bu q))=>qh (I5 hv (AX HS' (hx'.ext hC)) hmb (Ag b3 (by omega)));have HN:=qh (Mj (q:=q) d1);rw [←DC d2] at HN;have HD:Hid (Bu (p+q)=Bu q):=qh (JU (by have:=(Mj (q:=q) d1).2; exact this));clear b1 b4 b3 hmb d1 d2
 go_enter func70,ntmps70
 go_upto_region 1 with (fail)
 refine F3 ?_;intro w0 hE0 hB0 hB1 hB2 hz0;have p0:=hB0.c 0 rfl;have p1:=hB0.c 1 rfl;have p2:=hB0.c 2 rfl;have p3:=hB0.c 3 rfl;have q0:=hB1.c 0 rfl;have q1:=hB1.c 1 rfl;have q2:=hB1.c 2 rfl;have q3:=hB1.c 3 rfl;have hR:Arr w0 (w.heap.size+2) 97 (An false none 0 0 false none 0 0):=hB2;clear hz0
 go_wp2_with fail
 refine (hz3 _ hE0).out.mono ?_;rintro e w1 ⟨rfl,hE1⟩;have f2:=hE1.cell q2;have f3:=hE1.cell q3
 go_wp2_with fail
 refine (hz4 _ (hE0.trans hE1)).out.mono ?_;rintro e w2 ⟨rfl,hE2⟩;have hE02:=hE1.trans hE2;clear f2 f3;have f2:=hE02.cell p2;have f3:=hE02.cell p3
 go_wp2_with fail
 refine (hz3 _ (hE0.trans hE02)).out.mono ?_;rintro e w3 ⟨rfl,hE3⟩;have hE03:=hE02.trans hE3;clear f2 f3;have r0:=hE03.cell p0;have r1:=hE03.cell p1;have r2:=hE03.cell p2;have r3:=hE03.cell p3;have u0:=hE03.cell q0;have u1:=hE03.cell q1;have u2:=hE03.cell q2;have u3:=hE03.cell q3;have hEw:=hE0.trans hE03;have hRw:=hR.ext hE03;clear p0 p1 p2 p3 q0 q1 q2 q3;go_wp2;have HF1:=fun (wx:World) (hC:Ext w3 wx)=>qh (And.intro (hC.cell r0) (And.intro (hC.cell r1) (And.intro (hC.cell r2) (And.intro (hC.cell r3) (And.intro (hC.cell u0) (And.intro (hC.cell u1) (And.intro (hC.cell u2) (hC.cell u3))))))))
 refine Af (by kernel_rfl) (fun wx=>Ext w3 wx)
  [he (.pointer (some ⟨w.heap.size,0,none⟩)),
 he (.agg #[.bool s, .slice a n c]),
 he (.pointer (some ⟨(w.heap.size+1),2,none⟩)),
 he (.agg #[.bool false, .slice b' m' d']),
 hp (fun v wx=>NI (p.num*Bu q) v wx),
 he (.pointer (some ⟨(w.heap.size+1),0,none⟩)),
 he (.agg #[.bool s', .slice a' n' c']),
 hp (fun v wx=>NI (p.num*Bu q+q.num) v wx),
 he (.pointer (some ⟨(w.heap.size+1),2,none⟩)),
 he (.agg #[.bool false, .slice b' m' d'])]
  (by kernel_rfl) (fun _ _ e h=>h.trans e) ((Ext.refl w3).drew) ⟨trivial,trivial,trivial,trivial,NI.x _,trivial,trivial,NI.x _,trivial,trivial,trivial⟩ ⟨?o0, ?o1, ?o2, ?o3, ?o4, ?o5, ?o6, ?o7, ?o8, ?o9,trivial⟩ ?fin
 case o0=>exact ofa (d:=0) rfl rfl (fun _ _=>id) (by kernel_rfl) rfl
 case o1=>exact ol2 rfl rfl (fun _ _=>id) ⟨by kernel_rfl,by kernel_rfl⟩ (by assumption) (by assumption)
 case o2=>exact ofa (d:=2) rfl rfl (fun _ _=>id) (by kernel_rfl) rfl
 case o3=>exact ol2 rfl rfl (fun _ _=>id) ⟨by kernel_rfl,by kernel_rfl⟩ (by assumption) (by assumption)
 case o4 =>
  refine Aj rfl fun ρ wx hC hcst hfn h => ?_;have e1:ρ (.tmp 30)=(.agg #[.bool s, .slice a n c]):=h.2.1;have e2:ρ (.tmp 32)=(.agg #[.bool false, .slice b' m' d']):=h.2.2.1;obtain ⟨k0,k1,k2,k3,ky0,ky1,ky2,ky3⟩:=(HF1 wx hC).out;refine ⟨98,#[.agg #[.bool s, .slice a n c], .agg #[.bool false, .slice b' m' d']],by go_simp,((hml wx (hEw.trans hC)).out).mono ?_⟩;rintro e w' ⟨s',a',n',c',rfl,hE',hs',hn'⟩;exact ⟨_,rfl,hE',s',a',n',c',rfl,hs',hn'⟩
 case o5=>exact ofa (d:=0) rfl rfl (fun _ _=>id) (by kernel_rfl) rfl
 case o6=>exact ol2 rfl rfl (fun _ _=>id) ⟨by kernel_rfl,by kernel_rfl⟩ (by assumption) (by assumption)
 case o7 =>
  refine Aj rfl fun ρ wx hC hcst hfn h => ?_;obtain ⟨v1,e1,s1,a1,n1,c1,rfl,i1,j1⟩:=h.2.1;have e2:ρ (.tmp 35)=(.agg #[.bool s', .slice a' n' c']):=h.2.2.1;obtain ⟨k0,k1,k2,k3,ky0,ky1,ky2,ky3⟩:=(HF1 wx hC).out;refine ⟨118,#[.agg (Ab s1 a1 n1 c1).toArray, .agg #[.bool s', .slice a' n' c']],by go_simp,((had wx (hEw.trans hC) _ ⟨s1,a1,n1,c1,rfl,i1,j1⟩).out).mono ?_⟩;rintro e w' ⟨s',a',n',c',rfl,hE',hs',hn'⟩;exact ⟨_,rfl,hE',s',a',n',c',rfl,hs',hn'⟩
 case o8=>exact ofa (d:=2) rfl rfl (fun _ _=>id) (by kernel_rfl) rfl
 case o9=>exact ol2 rfl rfl (fun _ _=>id) ⟨by kernel_rfl,by kernel_rfl⟩ (by assumption) (by assumption)
 case fin =>
  intro wx hC;rintro _ ⟨s91,a91,n91,c91,rfl,HS91,hx91⟩;rintro _ ⟨s1,a1,n1,c1,rfl,HS1,hx1⟩;change wpList _ _ _ _ _ _;simp only [List.length_cons,List.length_nil,List.drop_succ_cons,List.drop_zero,Act.put,List.setIfInBounds_toArray,List.set_cons_succ,List.set_cons_zero];have hR1:=hRw.ext hC;have hl1:(Ab s1 a1 n1 c1).toArray=#[.bool s1, .slice a1 n1 c1]:=rfl
  go_wp2_with (refine Aa (vs:=An s1 a1 n1 c1 false b' m' d') rfl rfl rfl rfl rfl Ac hR1 rfl (Ap _ _ _ _ _ _ _ _) ?_; intro w9 hB9 hg9)
  exact bodyPost_ret (Al rfl Ac rfl hB9) rfl (Bf (hEw.trans hC) hR1 (AC _ _ _ _ _ _ _ _) hg9 (by omega) (by rw [HN.out.1]; exact HS1) (by rw [HN.out.1]; exact hx1) (by rw [HD.out]; exact hy'.ext (hEw.trans hC)))
theorem OM (h:BB w v p) (h':BB w v' q) (b1:p.num.natAbs<P2 2400) (b3:q.num.natAbs<P2 2400) (b2:p.den<P2 2400) (d1:p.den≠1) (d2:q.den=1):Calls prog 70 #[v,v'] w (F4 w (p+q)):=by
 obtain ⟨_,rfl,s,a,n,c,b,m,d,rfl,HS,hx,hy⟩:=h;obtain ⟨_,rfl,s',a',n',c',b',m',d',rfl,HS',hx',hy'⟩:=h';have hz3:=fun (wx:World) (hC:Ext w wx)=>qh (Av (r:=false) (Be (hy.ext hC)) (decide_eq_false (mt AE.1 d1)));have hz4:=fun (wx:World) (hC:Ext w wx)=>qh (Av (r:=true) (Be (hy'.ext hC)) (decide_eq_true (AE.2 d2)));have hml:=fun (wx:World) (hC:Ext w wx)=>qh (CB (AX HS' (hx'.ext hC)) (Be (hy.ext hC)) (Ag b3 (by omega)) (by rw [Dk d1]; exact Ag b2 (by omega)) (Or.inl (Ag b3 (by omega))))
 have hmb:(q.num*Bu p).natAbs<P2 9600:=by rw [Int.natAbs_mul,Dk d1]; exact Ag (B0 b3 b2) (by omega)
 have had:=fun (wx:World) (hC:Ext w wx) (x:Value) (hv:Ax wx x (q.num*Bu p))=>qh (I5 hv (AX HS (hx.ext hC)) hmb (Ag b1 (by omega)));have HN:=qh (Sg (p:=p) d2);rw [←DC d1] at HN;have HD:Hid (Bu (p+q)=Bu p):=qh (JU (by have:=(Sg (p:=p) d2).2; exact this));clear b1 b2 b3 hmb d1 d2
 go_enter func70,ntmps70
 go_upto_region 1 with (fail)
 refine F3 ?_;intro w0 hE0 hB0 hB1 hB2 hz0;have p0:=hB0.c 0 rfl;have p1:=hB0.c 1 rfl;have p2:=hB0.c 2 rfl;have p3:=hB0.c 3 rfl;have q0:=hB1.c 0 rfl;have q1:=hB1.c 1 rfl;have q2:=hB1.c 2 rfl;have q3:=hB1.c 3 rfl;have hR:Arr w0 (w.heap.size+2) 97 (An false none 0 0 false none 0 0):=hB2;clear hz0
 go_wp2_with fail
 refine (hz3 _ hE0).out.mono ?_;rintro e w1 ⟨rfl,hE1⟩;have f2:=hE1.cell p2;have f3:=hE1.cell p3
 go_wp2_with fail
 refine (hz3 _ (hE0.trans hE1)).out.mono ?_;rintro e w2 ⟨rfl,hE2⟩;have hE02:=hE1.trans hE2;clear f2 f3;have f2:=hE02.cell q2;have f3:=hE02.cell q3
 go_wp2_with fail
 refine (hz4 _ (hE0.trans hE02)).out.mono ?_;rintro e w3 ⟨rfl,hE3⟩;have hE03:=hE02.trans hE3;clear f2 f3;have r0:=hE03.cell p0;have r1:=hE03.cell p1;have r2:=hE03.cell p2;have r3:=hE03.cell p3;have u0:=hE03.cell q0;have u1:=hE03.cell q1;have u2:=hE03.cell q2;have u3:=hE03.cell q3;have hEw:=hE0.trans hE03;have hRw:=hR.ext hE03;clear p0 p1 p2 p3 q0 q1 q2 q3;go_wp2;have HF2:=fun (wx:World) (hC:Ext w3 wx)=>qh (And.intro (hC.cell r0) (And.intro (hC.cell r1) (And.intro (hC.cell r2) (And.intro (hC.cell r3) (And.intro (hC.cell u0) (And.intro (hC.cell u1) (And.intro (hC.cell u2) (hC.cell u3))))))))
 refine Af (by kernel_rfl) (fun wx=>Ext w3 wx)
  [he (.pointer (some ⟨(w.heap.size+1),0,none⟩)),
 he (.agg #[.bool s', .slice a' n' c']),
 he (.pointer (some ⟨w.heap.size,2,none⟩)),
 he (.agg #[.bool false, .slice b m d]),
 hp (fun v wx=>NI (q.num*Bu p) v wx),
 he (.pointer (some ⟨w.heap.size,0,none⟩)),
 he (.agg #[.bool s, .slice a n c]),
 hp (fun v wx=>NI (q.num*Bu p+p.num) v wx),
 he (.pointer (some ⟨w.heap.size,2,none⟩)),
 he (.agg #[.bool false, .slice b m d])]
  (by kernel_rfl) (fun _ _ e h=>h.trans e) ((Ext.refl w3).drew) ⟨trivial,trivial,trivial,trivial,NI.x _,trivial,trivial,NI.x _,trivial,trivial,trivial⟩ ⟨?o0, ?o1, ?o2, ?o3, ?o4, ?o5, ?o6, ?o7, ?o8, ?o9,trivial⟩ ?fin
 case o0=>exact ofa (d:=0) rfl rfl (fun _ _=>id) (by kernel_rfl) rfl
 case o1=>exact ol2 rfl rfl (fun _ _=>id) ⟨by kernel_rfl,by kernel_rfl⟩ (by assumption) (by assumption)
 case o2=>exact ofa (d:=2) rfl rfl (fun _ _=>id) (by kernel_rfl) rfl
 case o3=>exact ol2 rfl rfl (fun _ _=>id) ⟨by kernel_rfl,by kernel_rfl⟩ (by assumption) (by assumption)
 case o4 =>
  refine Aj rfl fun ρ wx hC hcst hfn h => ?_;have e1:ρ (.tmp 45)=(.agg #[.bool s', .slice a' n' c']):=h.2.1;have e2:ρ (.tmp 47)=(.agg #[.bool false, .slice b m d]):=h.2.2.1;obtain ⟨k0,k1,k2,k3,ky0,ky1,ky2,ky3⟩:=(HF2 wx hC).out;refine ⟨98,#[.agg #[.bool s', .slice a' n' c'], .agg #[.bool false, .slice b m d]],by go_simp,((hml wx (hEw.trans hC)).out).mono ?_⟩;rintro e w' ⟨s',a',n',c',rfl,hE',hs',hn'⟩;exact ⟨_,rfl,hE',s',a',n',c',rfl,hs',hn'⟩
 case o5=>exact ofa (d:=0) rfl rfl (fun _ _=>id) (by kernel_rfl) rfl
 case o6=>exact ol2 rfl rfl (fun _ _=>id) ⟨by kernel_rfl,by kernel_rfl⟩ (by assumption) (by assumption)
 case o7 =>
  refine Aj rfl fun ρ wx hC hcst hfn h => ?_;obtain ⟨v1,e1,s1,a1,n1,c1,rfl,i1,j1⟩:=h.2.1;have e2:ρ (.tmp 50)=(.agg #[.bool s, .slice a n c]):=h.2.2.1;obtain ⟨k0,k1,k2,k3,ky0,ky1,ky2,ky3⟩:=(HF2 wx hC).out;refine ⟨118,#[.agg (Ab s1 a1 n1 c1).toArray, .agg #[.bool s, .slice a n c]],by go_simp,((had wx (hEw.trans hC) _ ⟨s1,a1,n1,c1,rfl,i1,j1⟩).out).mono ?_⟩;rintro e w' ⟨s',a',n',c',rfl,hE',hs',hn'⟩;exact ⟨_,rfl,hE',s',a',n',c',rfl,hs',hn'⟩
 case o8=>exact ofa (d:=2) rfl rfl (fun _ _=>id) (by kernel_rfl) rfl
 case o9=>exact ol2 rfl rfl (fun _ _=>id) ⟨by kernel_rfl,by kernel_rfl⟩ (by assumption) (by assumption)
 case fin =>
  intro wx hC;rintro _ ⟨s91,a91,n91,c91,rfl,HS91,hx91⟩;rintro _ ⟨s1,a1,n1,c1,rfl,HS1,hx1⟩;change wpList _ _ _ _ _ _;simp only [List.length_cons,List.length_nil,List.drop_succ_cons,List.drop_zero,Act.put,List.setIfInBounds_toArray,List.set_cons_succ,List.set_cons_zero];have hR1:=hRw.ext hC;have hl1:(Ab s1 a1 n1 c1).toArray=#[.bool s1, .slice a1 n1 c1]:=rfl
  go_wp2_with (refine Aa (vs:=An s1 a1 n1 c1 false b m d) rfl rfl rfl rfl rfl Ac hR1 rfl (Ap _ _ _ _ _ _ _ _) ?_; intro w9 hB9 hg9)
  exact bodyPost_ret (Al rfl Ac rfl hB9) rfl (Bf (hEw.trans hC) hR1 (AC _ _ _ _ _ _ _ _) hg9 (by omega) (by rw [HN.out.1]; exact HS1) (by rw [HN.out.1]; exact hx1) (by rw [HD.out]; exact hy.ext (hEw.trans hC)))
theorem Np (hT:A2 w) (h:BB w v p) (h':BB w v' q) (b1:p.num.natAbs<P2 2400) (b2:p.den<P2 2400) (b3:q.num.natAbs<P2 2400) (b4:q.den<P2 2400) (d1:p.den≠1) (d2:q.den≠1):Calls prog 70 #[v,v'] w (F4 w (p+q)):=by
 obtain ⟨_,rfl,s,a,n,c,b,m,d,rfl,HS,hx,hy⟩:=h;obtain ⟨_,rfl,s',a',n',c',b',m',d',rfl,HS',hx',hy'⟩:=h';have hz3:=fun (wx:World) (hC:Ext w wx)=>qh (Av (r:=false) (Be (hy.ext hC)) (decide_eq_false (mt AE.1 d1)));have hz4:=fun (wx:World) (hC:Ext w wx)=>qh (Av (r:=false) (Be (hy'.ext hC)) (decide_eq_false (mt AE.1 d2)));have hyI:=fun (wx:World) (hC:Ext w wx)=>Be (hy.ext hC);have hyI':=fun (wx:World) (hC:Ext w wx)=>Be (hy'.ext hC);rw [DC d1] at hyI;rw [DC d2] at hyI';obtain ⟨G,hG⟩:∃ G,G=Nat.gcd p.den q.den:=⟨_,rfl⟩
 obtain ⟨L,hL⟩:∃ L,L=q.den/G:=⟨_,rfl⟩;obtain ⟨R,hRR⟩:∃ R,R=p.den/G:=⟨_,rfl⟩;obtain ⟨N,hN⟩:∃ N:Int,N=p.num*(L:Int)+q.num*(R:Int):=⟨_,rfl⟩;obtain ⟨K,hK⟩:∃ K,K=N.natAbs.gcd G:=⟨_,rfl⟩;have hs:=Pl.rat_add_parts p q;rw [←hG,←hL,←hRR,←hN,←hK] at hs;have hGp:0<G:=by rw [hG]; exact Nat.gcd_pos_of_pos_left _ (Nat.pos_of_ne_zero p.den_nz)
 have hKp:0<K:=by rw [hK]; exact Nat.gcd_pos_of_pos_right _ hGp
 have bG:G<P2 2400:=Nat.lt_of_le_of_lt (by rw [hG]; exact Nat.gcd_le_left _ (Nat.pos_of_ne_zero p.den_nz)) b2;have bK:K<P2 2400:=Nat.lt_of_le_of_lt (by rw [hK]; exact Nat.gcd_le_right _ hGp) bG;have bL:L<P2 2400:=Nat.lt_of_le_of_lt (by rw [hL]; exact Nat.div_le_self _ _) b4;have bR:R<P2 2400:=Nat.lt_of_le_of_lt (by rw [hRR]; exact Nat.div_le_self _ _) b2;have bn1:(p.num*(L:Int)).natAbs<P2 4800:=by rw [Int.natAbs_mul]; exact B0 b1 bL
 have bn2:(q.num*(R:Int)).natAbs<P2 4800:=by rw [Int.natAbs_mul]; exact B0 b3 bR
 have bN:N.natAbs<P2 9600:=Ag (Nat.lt_of_le_of_lt (by rw [hN]; exact Int.natAbs_add_le _ _) (L3 bn1 bn2)) (by omega);have bq:(((q.den/K:Nat):Int)).natAbs<P2 2400:=Nat.lt_of_le_of_lt (Nat.div_le_self _ _) b4;have td:∀ x y:Nat,((x:Int)).tdiv (y:Int)=((x/y:Nat):Int):=fun x y=>by rw [Int.tdiv_eq_ediv_of_nonneg (by omega)]; push_cast; rfl
 have hgc:=fun (wx:World) (hC:Ext w wx)=>qh (EE (hT.ext hC) (hyI wx hC) (hyI' wx hC) (Ag b2 (by omega)) (Ag b4 (by omega)));simp only [Int.natAbs_natCast,←hG] at hgc;have hq1:=fun (wx:World) (hC:Ext w wx) (g:Value) (hg:Ax wx g (G:Int))=>qh (D3 (hyI' wx hC) hg (Ag b4 (by omega)) (Ag bG (by omega)) (by omega));have hq2:=fun (wx:World) (hC:Ext w wx) (g:Value) (hg:Ax wx g (G:Int))=>qh (D3 (hyI wx hC) hg (Ag b2 (by omega)) (Ag bG (by omega)) (by omega));rw [td,←hL] at hq1;rw [td,←hRR] at hq2
 have hm1:=fun (wx:World) (hC:Ext w wx) (g:Value) (hg:Ax wx g (L:Int))=>qh (CB (AX HS (hx.ext hC)) hg (Ag b1 (by omega)) (Ag bL (by omega)) (Or.inl (Ag b1 (by omega))));have hm2:=fun (wx:World) (hC:Ext w wx) (g:Value) (hg:Ax wx g (R:Int))=>qh (CB (AX HS' (hx'.ext hC)) hg (Ag b3 (by omega)) (Ag bR (by omega)) (Or.inl (Ag b3 (by omega))));have had:=fun (wx:World) (x1 x2:Value) (h1:Ax wx x1 (p.num*(L:Int))) (h2:Ax wx x2 (q.num*(R:Int)))=>qh (I5 h1 h2 (Ag bn1 (by omega)) (Ag bn2 (by omega)));rw [←hN] at had
 have hzn:=fun (wx:World) (x:Value) (hv:Ax wx x N)=>qh (Av (r:=decide (N=0)) hv rfl);have hio:=fun (wx:World) (x:Value) (hv:Ax wx x (G:Int))=>qh (Ct (r:=decide (G=1)) hv (decide_eq_decide.2 (by omega)));have hm3:=fun (wx:World) (hC:Ext w wx)=>qh (CB (hyI wx hC) (hyI' wx hC) (Ag b2 (by omega)) (Ag b4 (by omega)) (Or.inl (Ag b2 (by omega))));have hgr:=fun (wx:World) (hC:Ext w wx) (x y:Value) (hv:Ax wx x N) (hv':Ax wx y (G:Int))=>qh (EE (hT.ext hC) hv hv' bN (Ag bG (by omega)));simp only [Int.natAbs_natCast,←hK] at hgr
 have hq3:=fun (wx:World) (x y:Value) (hv:Ax wx x N) (hv':Ax wx y (K:Int))=>qh (D3 hv hv' bN (Ag bK (by omega)) (by omega));have hq4:=fun (wx:World) (hC:Ext w wx) (y:Value) (hv':Ax wx y (K:Int))=>qh (D3 (hyI' wx hC) hv' (Ag b4 (by omega)) (Ag bK (by omega)) (by omega));rw [td] at hq4;have hm4:=fun (wx:World) (x y:Value) (hv:Ax wx x (R:Int)) (hv':Ax wx y ((q.den/K:Nat):Int))=>qh (CB hv hv' (Ag bR (by omega)) (Ag bq (by omega)) (Or.inl (Ag bR (by omega))));rw [←Int.natCast_mul,←hs.2] at hm4;rw [←hs.1] at hq3;rw [←Int.natCast_mul] at hm3
 have HZ:N=0→Hid (p+q=0):=fun h=>qh (Pl.rat_num_den_zero.1 (by rw [hs.1,h]; exact Int.zero_tdiv _))
 have HO:G=1→Hid ((p+q).num=N∧(p+q).den=p.den*q.den):=fun h=>by
  refine qh ⟨?_, ?_⟩
  · rw [hs.1,hK,h,Nat.gcd_one_right]; exact Int.tdiv_one _
  · rw [hs.2,hK,h,Nat.gcd_one_right,Nat.div_one,hRR,h,Nat.div_one]
 clear b1 b2 b3 b4 d1 d2 hs hG hL hRR hN hK hGp hKp bG bK bL bR bn1 bn2 bN bq td hyI hyI'
 go_enter func70,ntmps70
 go_upto_region 1 with (fail)
 refine F3 ?_;intro w0 hE0 hB0 hB1 hB2 hz0;have p0:=hB0.c 0 rfl;have p1:=hB0.c 1 rfl;have p2:=hB0.c 2 rfl;have p3:=hB0.c 3 rfl;have q0:=hB1.c 0 rfl;have q1:=hB1.c 1 rfl;have q2:=hB1.c 2 rfl;have q3:=hB1.c 3 rfl;have hR:Arr w0 (w.heap.size+2) 97 (An false none 0 0 false none 0 0):=hB2;clear hz0
 go_wp2_with fail
 refine (hz3 _ hE0).out.mono ?_;rintro e w1 ⟨rfl,hE1⟩;have f2:=hE1.cell p2;have f3:=hE1.cell p3
 go_wp2_with fail
 refine (hz3 _ (hE0.trans hE1)).out.mono ?_;rintro e w2 ⟨rfl,hE2⟩;have hE02:=hE1.trans hE2;clear f2 f3;have f2:=hE02.cell q2;have f3:=hE02.cell q3
 go_wp2_with fail
 refine (hz4 _ (hE0.trans hE02)).out.mono ?_;rintro e w3 ⟨rfl,hE3⟩;have hE03:=hE02.trans hE3;clear f2 f3;have f0:=hE03.cell p0;have f1:=hE03.cell p1;have f2:=hE03.cell p2;have f3:=hE03.cell p3;have g0:=hE03.cell q0;have g1:=hE03.cell q1;have g2:=hE03.cell q2;have g3:=hE03.cell q3
 go_wp2_with fail
 refine (hgc _ (hE0.trans hE03)).out.mono ?_;rintro e w4 ⟨s3,a3,n3,c3,rfl,hE4,HS3,hx3⟩;have hl3:(Ab s3 a3 n3 c3).toArray=#[.bool s3, .slice a3 n3 c3]:=rfl;have hY:=Arr.new w4 90 (Ab false none 0 0)
 go_upto_region 8 with (refine Aa (vs:=Ab s3 a3 n3 c3) rfl rfl rfl rfl rfl Ad hY rfl (Ai _ _ _ _) ?_; intro w5 hB3 hg3)
 have hE5:Ext w4 w5:=((Ext.refl w4).alloc _).grownR hg3 (lrf _);have hEw5:=((hE0.trans hE03).trans hE4).trans hE5;have hRw5:=((hR.ext hE03).ext hE4).ext hE5;have hE35:=hE4.trans hE5;have r0:=hE35.cell f0;have r1:=hE35.cell f1;have r2:=hE35.cell f2;have r3:=hE35.cell f3;have u0:=hE35.cell g0;have u1:=hE35.cell g1;have u2:=hE35.cell g2;have u3:=hE35.cell g3;have m30:=hB3.c 0 rfl;have m31:=hB3.c 1 rfl;have iG:Ax w5 (.agg (Ab s3 a3 n3 c3).toArray) (G:Int):=⟨s3,a3,n3,c3,rfl,HS3,hx3.ext hE5⟩;clear hl3 p0 p1 p2 p3 q0 q1 q2 q3 f0 f1 f2 f3 g0 g1 g2 g3 hz3 hz4 hgc hY
 have HF3:=fun (wx:World) (hC:Ext w5 wx)=>qh (And.intro (hC.cell r0) (And.intro (hC.cell r1) (And.intro (hC.cell r2) (And.intro (hC.cell r3) (And.intro (hC.cell u0) (And.intro (hC.cell u1) (And.intro (hC.cell u2) (And.intro (hC.cell u3) (And.intro (hC.cell m30) (hC.cell m31))))))))))
 refine DP (by kernel_rfl) (fun wx=>Ext w5 wx)
  [he (.pointer (some ⟨(w.heap.size+1),2,none⟩)),
 he (.agg #[.bool false, .slice b' m' d']),
 he (.agg #[.bool s3, .slice a3 n3 c3]),
 hp (fun v wx=>NI ((L:Int)) v wx),
 he (.pointer (some ⟨w.heap.size,2,none⟩)),
 he (.agg #[.bool false, .slice b m d]),
 he (.agg #[.bool s3, .slice a3 n3 c3]),
 hp (fun v wx=>NI ((R:Int)) v wx),
 hp (NP w5.heap.size),
 hp (NP w5.heap.size),
 hmp (fun _ _=>True)]
  (by kernel_rfl) (fun _ _ e h=>h.trans e) ((Ext.refl w5).drew) ⟨trivial,trivial,trivial,NI.x _,trivial,trivial,trivial,NI.x _,NP.x _,NP.x _,NT.x,trivial⟩ ⟨?o0, ?o1, ?o2, ?o3, ?o4, ?o5, ?o6, ?o7, ?o8, ?o9, ?o10,trivial⟩ 8 9 10 3 90 (Ab false none 0 0) ⟨by simp,by simp,by simp,by simp⟩ (by omega) ?hk ?hs1 ?hp1 ?hnm Ad ?hj1 ?fin
 case o0=>exact ofa (d:=2) rfl rfl (fun _ _=>id) (by kernel_rfl) rfl
 case o1=>exact ol2 rfl rfl (fun _ _=>id) ⟨by kernel_rfl,by kernel_rfl⟩ (by assumption) (by assumption)
 case o2=>exact ol2 rfl rfl (fun _ _=>id) ⟨by kernel_rfl,by kernel_rfl⟩ (by assumption) (by assumption)
 case o3 =>
  refine Aj rfl fun ρ wx hC hcst hfn h => ?_;have e1:ρ (.tmp 61)=(.agg #[.bool false, .slice b' m' d']):=h.2.1;have e2:ρ (.tmp 62)=(.agg #[.bool s3, .slice a3 n3 c3]):=h.2.2.1;obtain ⟨kx0,kx1,kx2,kx3,ky0,ky1,ky2,ky3,m30,m31⟩:=(HF3 wx hC).out;refine ⟨119,#[.agg #[.bool false, .slice b' m' d'], .agg #[.bool s3, .slice a3 n3 c3]],by go_simp,((hq1 wx (hEw5.trans hC) _ (iG.ext hC)).out).mono ?_⟩;rintro e w' ⟨s',a',n',c',rfl,hE',hs',hn'⟩;exact ⟨_,rfl,hE',s',a',n',c',rfl,hs',hn'⟩
 case o4=>exact ofa (d:=2) rfl rfl (fun _ _=>id) (by kernel_rfl) rfl
 case o5=>exact ol2 rfl rfl (fun _ _=>id) ⟨by kernel_rfl,by kernel_rfl⟩ (by assumption) (by assumption)
 case o6=>exact ol2 rfl rfl (fun _ _=>id) ⟨by kernel_rfl,by kernel_rfl⟩ (by assumption) (by assumption)
 case o7 =>
  refine Aj rfl fun ρ wx hC hcst hfn h => ?_;have e1:ρ (.tmp 65)=(.agg #[.bool false, .slice b m d]):=h.2.1;have e2:ρ (.tmp 66)=(.agg #[.bool s3, .slice a3 n3 c3]):=h.2.2.1;obtain ⟨kx0,kx1,kx2,kx3,ky0,ky1,ky2,ky3,m30,m31⟩:=(HF3 wx hC).out;refine ⟨119,#[.agg #[.bool false, .slice b m d], .agg #[.bool s3, .slice a3 n3 c3]],by go_simp,((hq2 wx (hEw5.trans hC) _ (iG.ext hC)).out).mono ?_⟩;rintro e w' ⟨s',a',n',c',rfl,hE',hs',hn'⟩;exact ⟨_,rfl,hE',s',a',n',c',rfl,hs',hn'⟩
 case o8 =>
  exact CH rfl rfl (fun _ h=>h.size)
 case o9 =>
  exact CH rfl rfl (fun _ h=>h.size)
 case o10 =>
  exact Gr (base:=w5.heap.size) (z:=(L:Int)) rfl rfl ⟨trivial,trivial,trivial,NI.i _,trivial,trivial,trivial,NI.i _,NP.i _,NP.i _,NT.i,trivial⟩ (fun w w' g h hb hg=>h.grownR hg hb) (fun ρ w _ _ h=>⟨h.1,h.2.1⟩)
 case hk =>
  rintro k (rfl|rfl) o ho
  · cases ho; exact ⟨rfl,rfl,fun ρ wx=>CG rfl ρ wx⟩
  · cases ho; exact ⟨rfl,rfl,fun ρ wx=>CG rfl ρ wx⟩
 case hs1 =>
  intro o ho;cases ho;exact ⟨rfl,rfl,_,_,rfl,rfl,rfl⟩
 case hp1=>exact ⟨List.contains_iff_mem.1 (by kernel_rfl),List.contains_iff_mem.1 (by kernel_rfl)⟩
 case hnm =>
  intro i hi hne;simp only [List.length_cons,List.length_nil] at hi
  match i,hi,hne with
  | 0,_,_=>rfl
  | 1,_,_=>rfl
  | 2,_,_=>rfl
  | 3,_,_=>rfl
  | 4,_,_=>rfl
  | 5,_,_=>rfl
  | 6,_,_=>rfl
  | 7,_,_=>rfl
  | 8,_,_=>rfl
  | 9,_,_=>rfl
  | 10,_,hne=>exact absurd rfl hne
 case hj1 =>
  refine ⟨rfl,fun v w h => ?_⟩;obtain ⟨s,a,n,c,rfl,_,_⟩:=h;exact ⟨Ab s a n c,rfl,rfl,Ai _ _ _ _⟩
 case fin =>
  intro wx hC;rintro _ ⟨s5,a5,n5,c5,rfl,HS5,hx5⟩;rintro _ ⟨s6,a6,n6,c6,rfl,HS6,hx6⟩;rintro _ ⟨g5,cs5,rfl,_,_,_,_⟩;rintro _ ⟨g6,cs6,rfl,_,_,_,_⟩;rintro _ _;simp only [List.length_cons,List.length_nil,List.drop_succ_cons,List.drop_zero,Act.put,List.setIfInBounds_toArray,List.set_cons_succ,List.set_cons_zero,AP,AY,List.getElem?_toArray,List.getElem?_cons_succ,List.getElem?_cons_zero,Option.bind_some];rintro ⟨ga,gb,csx,e1,e2,l5,l6,hne,e3,hA1,hA2⟩;have e1':Value.pointer (some ⟨g5,0,none⟩) = .pointer (some ⟨ga,0,none⟩):=e1
  have e2':Value.pointer (some ⟨g6,0,none⟩) = .pointer (some ⟨gb,0,none⟩):=e2;have e3':Value.agg (Ab s5 a5 n5 c5).toArray = .agg csx.toArray:=e3;simp only [Value.pointer.injEq,Option.some.injEq,Addr.mk.injEq,and_true] at e1' e2';have e4:csx=Ab s5 a5 n5 c5:=by simpa using e3'.symm
  subst e1'; subst e2'; subst e4;clear e1 e2 e3 e3';change wpList _ _ _ _ _ _
  go_upto_region 9 with (refine Aa (vs:=Ab s6 a6 n6 c6) rfl rfl rfl rfl rfl Ad hA2 rfl (Ai _ _ _ _) ?_; intro w6 hB6 hg6)
  have hE6:Ext w5 w6:=hC.grownR hg6 l6;have hN5:=hA1.kept hg6 (by simpa using hne);have hX5:=hx5.kept hA2 (Aq _ _ _ _) hg6;have hX6:=hx6.kept hA2 (Aq _ _ _ _) hg6;clear hA1 hA2 hne hC hx5 hx6 hg6;have y0:=hE6.cell r0;have y1:=hE6.cell r1;have y2:=hE6.cell r2;have y3:=hE6.cell r3;have z0:=hE6.cell u0;have z1:=hE6.cell u1;have z2:=hE6.cell u2;have z3:=hE6.cell u3;have hEw6:=hEw5.trans hE6;have hRw6:=hRw5.ext hE6;have iG6:=iG.ext hE6;have e30:=hE6.cell m30;have e31:=hE6.cell m31;have m50:=hN5.c 0 rfl;have m51:=hN5.c 1 rfl;have m60:=hB6.c 0 rfl;have m61:=hB6.c 1 rfl
  have iL:Ax w6 (.agg (Ab s5 a5 n5 c5).toArray) (L:Int):=⟨s5,a5,n5,c5,rfl,HS5,hX5⟩;have iR:Ax w6 (.agg (Ab s6 a6 n6 c6).toArray) (R:Int):=⟨s6,a6,n6,c6,rfl,HS6,hX6⟩;clear r0 r1 r2 r3 u0 u1 u2 u3 m30 m31 hq1 hq2;have HF4:=fun (wx:World) (hC:Ext w6 wx)=>qh (And.intro (hC.cell y0) (And.intro (hC.cell y1) (And.intro (hC.cell y2) (And.intro (hC.cell y3) (And.intro (hC.cell z0) (And.intro (hC.cell z1) (And.intro (hC.cell z2) (And.intro (hC.cell z3) (And.intro (hC.cell m50) (And.intro (hC.cell m51) (And.intro (hC.cell m60) (hC.cell m61))))))))))))
  refine Af (by kernel_rfl) (fun wx=>Ext w6 wx)
   [he (.pointer (some ⟨w.heap.size,0,none⟩)),
 he (.agg #[.bool s, .slice a n c]),
 he (.agg #[.bool s5, .slice a5 n5 c5]),
 hp (fun v wx=>NI (p.num*(L:Int)) v wx),
 he (.pointer (some ⟨(w.heap.size+1),0,none⟩)),
 he (.agg #[.bool s', .slice a' n' c']),
 he (.agg #[.bool s6, .slice a6 n6 c6]),
 hp (fun v wx=>NI (q.num*(R:Int)) v wx),
 hp (fun v wx=>NI (N) v wx),
 hp (NP w6.heap.size)]
   (by kernel_rfl) (fun _ _ e h=>h.trans e) ((Ext.refl w6).drew) ⟨trivial,trivial,trivial,NI.x _,trivial,trivial,trivial,NI.x _,NI.x _,NP.x _,trivial⟩ ⟨?o0, ?o1, ?o2, ?o3, ?o4, ?o5, ?o6, ?o7, ?o8, ?o9,trivial⟩ ?fin
  case o0=>exact ofa (d:=0) rfl rfl (fun _ _=>id) (by kernel_rfl) rfl
  case o1=>exact ol2 rfl rfl (fun _ _=>id) ⟨by kernel_rfl,by kernel_rfl⟩ (by assumption) (by assumption)
  case o2=>exact ol2 rfl rfl (fun _ _=>id) ⟨by kernel_rfl,by kernel_rfl⟩ (by assumption) (by assumption)
  case o3 =>
   refine Aj rfl fun ρ wx hC hcst hfn h => ?_;have e1:ρ (.tmp 69)=(.agg #[.bool s, .slice a n c]):=h.2.1;have e2:ρ (.tmp 70)=(.agg #[.bool s5, .slice a5 n5 c5]):=h.2.2.1;obtain ⟨kx0,kx1,kx2,kx3,ky0,ky1,ky2,ky3,m50,m51,m60,m61⟩:=(HF4 wx hC).out;refine ⟨98,#[.agg #[.bool s, .slice a n c], .agg #[.bool s5, .slice a5 n5 c5]],by go_simp,((hm1 wx (hEw6.trans hC) _ (iL.ext hC)).out).mono ?_⟩;rintro e w' ⟨s',a',n',c',rfl,hE',hs',hn'⟩;exact ⟨_,rfl,hE',s',a',n',c',rfl,hs',hn'⟩
  case o4=>exact ofa (d:=0) rfl rfl (fun _ _=>id) (by kernel_rfl) rfl
  case o5=>exact ol2 rfl rfl (fun _ _=>id) ⟨by kernel_rfl,by kernel_rfl⟩ (by assumption) (by assumption)
  case o6=>exact ol2 rfl rfl (fun _ _=>id) ⟨by kernel_rfl,by kernel_rfl⟩ (by assumption) (by assumption)
  case o7 =>
   refine Aj rfl fun ρ wx hC hcst hfn h => ?_;have e1:ρ (.tmp 73)=(.agg #[.bool s', .slice a' n' c']):=h.2.1;have e2:ρ (.tmp 74)=(.agg #[.bool s6, .slice a6 n6 c6]):=h.2.2.1;obtain ⟨kx0,kx1,kx2,kx3,ky0,ky1,ky2,ky3,m50,m51,m60,m61⟩:=(HF4 wx hC).out;refine ⟨98,#[.agg #[.bool s', .slice a' n' c'], .agg #[.bool s6, .slice a6 n6 c6]],by go_simp,((hm2 wx (hEw6.trans hC) _ (iR.ext hC)).out).mono ?_⟩;rintro e w' ⟨s',a',n',c',rfl,hE',hs',hn'⟩;exact ⟨_,rfl,hE',s',a',n',c',rfl,hs',hn'⟩
  case o8 =>
   refine Aj rfl fun ρ wx hC hcst hfn h => ?_;obtain ⟨v1,e1,s1,a1,n1,c1,rfl,i1,j1⟩:=h.2.1;obtain ⟨v2,e2,s2,a2,n2,c2,rfl,i2,j2⟩:=h.2.2.1;obtain ⟨kx0,kx1,kx2,kx3,ky0,ky1,ky2,ky3,m50,m51,m60,m61⟩:=(HF4 wx hC).out;refine ⟨118,#[.agg (Ab s1 a1 n1 c1).toArray, .agg (Ab s2 a2 n2 c2).toArray],by go_simp,((had wx _ _ ⟨s1,a1,n1,c1,rfl,i1,j1⟩ ⟨s2,a2,n2,c2,rfl,i2,j2⟩).out).mono ?_⟩;rintro e w' ⟨s',a',n',c',rfl,hE',hs',hn'⟩;exact ⟨_,rfl,hE',s',a',n',c',rfl,hs',hn'⟩
  case o9 =>
   exact CH rfl rfl (fun _ h=>h.size)
  case fin =>
   intro wx hC;rintro _ ⟨s91,a91,n91,c91,rfl,HS91,hx91⟩;rintro _ ⟨s92,a92,n92,c92,rfl,HS92,hx92⟩;rintro _ ⟨s7,a7,n7,c7,rfl,HS7,hx7⟩;rintro _ ⟨g7,cs7,rfl,l7,A7,k7,U7⟩;change wpList _ _ _ _ _ _;simp only [List.length_cons,List.length_nil,List.drop_succ_cons,List.drop_zero,Act.put,List.setIfInBounds_toArray,List.set_cons_succ,List.set_cons_zero];have hl7:(Ab s7 a7 n7 c7).toArray=#[.bool s7, .slice a7 n7 c7]:=rfl
   go_upto_region 10 with (refine Aa (vs:=Ab s7 a7 n7 c7) rfl rfl rfl rfl rfl Ad A7 k7 (Ai _ _ _ _) ?_; intro w7 hB7 hg7)
   have hE7:Ext w6 w7:=hC.grownR hg7 l7;have iN:Ax w7 (.agg (Ab s7 a7 n7 c7).toArray) N:=⟨s7,a7,n7,c7,rfl,HS7,hx7.kept A7 U7 hg7⟩;have m70:=hB7.c 0 rfl;have m71:=hB7.c 1 rfl;clear hl7 hm1 hm2 had hC hg7 A7 U7 k7 l7
   go_wp2_with fail
   refine (hzn _ _ iN).out.mono ?_;rintro e w8 ⟨rfl,hE8⟩;have hE68:=hE7.trans hE8;have hEw8:=hEw6.trans hE68;have hRw8:=hRw6.ext hE68;by_cases hN0:N=0
   · have HZ':=HZ hN0;rw [decide_eq_true hN0];clear hN0 HZ HO
     go_wp2_with (refine Aa (vs:=An false none 0 0 false none 0 0) rfl rfl rfl rfl rfl Ac hRw8 rfl (Ap _ _ _ _ _ _ _ _) ?_; intro w9 hB9 hg9)
     refine bodyPost_ret (Al rfl Ac rfl hB9) rfl ?_;rw [HZ'.out];exact Bf hEw8 hRw8 (AC _ _ _ _ _ _ _ _) hg9 (by omega) (qh rfl) (Wd.nil _) (Wd.nil _)
   · rw [decide_eq_false hN0];clear hN0 HZ;have v30:=hE68.cell e30;have v31:=hE68.cell e31
     go_wp2_with fail
     refine (hio _ _ (iG6.ext hE68)).out.mono ?_;rintro e w10 ⟨rfl,hE10⟩;have hE610:=hE68.trans hE10;have hE710:=hE8.trans hE10;have hEw10:=hEw6.trans hE610;have hRw10:=hRw6.ext hE610;have m70:=hE710.cell m70;have m71:=hE710.cell m71;have iN:=iN.ext hE710;clear v30 v31;have r0:=hE610.cell y0;have r1:=hE610.cell y1;have r2:=hE610.cell y2;have r3:=hE610.cell y3;have u0:=hE610.cell z0;have u1:=hE610.cell z1;have u2:=hE610.cell z2;have u3:=hE610.cell z3;by_cases hG1:G=1
     · have HO':=HO hG1;rw [decide_eq_true hG1];rw [←HO'.out.1] at iN;rw [←HO'.out.2] at hm3;clear hG1 HO;go_wp2;have HF5:=fun (wx:World) (hC:Ext w10 wx)=>qh (And.intro (hC.cell r0) (And.intro (hC.cell r1) (And.intro (hC.cell r2) (And.intro (hC.cell r3) (And.intro (hC.cell u0) (And.intro (hC.cell u1) (And.intro (hC.cell u2) (And.intro (hC.cell u3) (And.intro (hC.cell m70) (hC.cell m71))))))))))
       refine Af (by kernel_rfl) (fun wx=>Ext w10 wx)
        [he (.agg #[.bool s7, .slice a7 n7 c7]),
 he (.pointer (some ⟨w.heap.size,2,none⟩)),
 he (.agg #[.bool false, .slice b m d]),
 he (.pointer (some ⟨(w.heap.size+1),2,none⟩)),
 he (.agg #[.bool false, .slice b' m' d']),
 hp (fun v wx=>NI (((p+q).den:Int)) v wx),
 hp (fun v wx=>∃ cs,v = .agg cs.toArray∧DD wx cs (p+q))]
        (by kernel_rfl) (fun _ _ e h=>h.trans e) ((Ext.refl w10).drew) ⟨trivial,trivial,trivial,trivial,trivial,NI.x _,fun v w w' e ⟨cs,h1,h2⟩=>⟨cs,h1,h2.ext e⟩,trivial⟩ ⟨?o0, ?o1, ?o2, ?o3, ?o4, ?o5, ?o6,trivial⟩ ?fin
       case o0=>exact ol2 rfl rfl (fun _ _=>id) ⟨by kernel_rfl,by kernel_rfl⟩ (by assumption) (by assumption)
       case o1=>exact ofa (d:=2) rfl rfl (fun _ _=>id) (by kernel_rfl) rfl
       case o2=>exact ol2 rfl rfl (fun _ _=>id) ⟨by kernel_rfl,by kernel_rfl⟩ (by assumption) (by assumption)
       case o3=>exact ofa (d:=2) rfl rfl (fun _ _=>id) (by kernel_rfl) rfl
       case o4=>exact ol2 rfl rfl (fun _ _=>id) ⟨by kernel_rfl,by kernel_rfl⟩ (by assumption) (by assumption)
       case o5 =>
        refine Aj rfl fun ρ wx hC hcst hfn h => ?_;have e1:ρ (.tmp 84)=(.agg #[.bool false, .slice b m d]):=h.2.1;have e2:ρ (.tmp 86)=(.agg #[.bool false, .slice b' m' d']):=h.2.2.1;obtain ⟨kx0,kx1,kx2,kx3,ky0,ky1,ky2,ky3,m70,m71⟩:=(HF5 wx hC).out;refine ⟨98,#[.agg #[.bool false, .slice b m d], .agg #[.bool false, .slice b' m' d']],by go_simp,((hm3 wx (hEw10.trans hC)).out).mono ?_⟩;rintro e w' ⟨s',a',n',c',rfl,hE',hs',hn'⟩;exact ⟨_,rfl,hE',s',a',n',c',rfl,hs',hn'⟩
       case o6 =>
        refine Aj rfl fun ρ wx hC hcst hfn h => ?_;have e1:ρ (.tmp 82)=(.agg #[.bool s7, .slice a7 n7 c7]):=h.2.1;obtain ⟨v2,e2,s2,a2,n2,c2,rfl,i2,j2⟩:=h.2.2.1;obtain ⟨kx0,kx1,kx2,kx3,ky0,ky1,ky2,ky3,m70,m71⟩:=(HF5 wx hC).out;refine ⟨115,#[.agg #[.bool s7, .slice a7 n7 c7], .agg (Ab s2 a2 n2 c2).toArray],by go_simp,(CF (q:=p+q) (iN.ext hC) ⟨s2,a2,n2,c2,rfl,i2,j2⟩).mono ?_⟩;rintro e w' ⟨cs,rfl,hE',hr'⟩;exact ⟨_,rfl,hE',cs,rfl,hr'⟩
       case fin =>
        intro wx hC;rintro _ ⟨s91,a91,n91,c91,rfl,HS91,hx91⟩;rintro _ ⟨_,rfl,s9,a9,n9,c9,b9,m9,d9,rfl,HS9,hx9,hy9⟩;change wpList _ _ _ _ _ _;simp only [List.length_cons,List.length_nil,List.drop_succ_cons,List.drop_zero,Act.put,List.setIfInBounds_toArray,List.set_cons_succ,List.set_cons_zero];have hR1:=hRw10.ext hC;have hl9:(An s9 a9 n9 c9 false b9 m9 d9).toArray=#[.bool s9, .slice a9 n9 c9, .bool false, .slice b9 m9 d9]:=rfl
        go_wp2_with (refine Aa (vs:=An s9 a9 n9 c9 false b9 m9 d9) rfl rfl rfl rfl rfl Ac hR1 rfl (Ap _ _ _ _ _ _ _ _) ?_; intro w9 hB9 hg9)
        exact bodyPost_ret (Al rfl Ac rfl hB9) rfl (Bf (hEw10.trans hC) hR1 (AC _ _ _ _ _ _ _ _) hg9 (by omega) HS9 hx9 hy9)
     · rw [decide_eq_false hG1];have v30:=hE610.cell e30;have v31:=hE610.cell e31;clear hG1 HO
       go_wp2_with fail
       refine (hgr _ hEw10 _ _ iN (iG6.ext hE610)).out.mono ?_;rintro e w11 ⟨s8,a8,n8,c8,rfl,hE11,HS8,hx8⟩;have hl8:(Ab s8 a8 n8 c8).toArray=#[.bool s8, .slice a8 n8 c8]:=rfl;have hY:=Arr.new w11 90 (Ab false none 0 0)
       go_upto_region 15 with (refine Aa (vs:=Ab s8 a8 n8 c8) rfl rfl rfl rfl rfl Ad hY rfl (Ai _ _ _ _) ?_; intro w12 hB8 hg8)
       have hE12:Ext w11 w12:=((Ext.refl w11).alloc _).grownR hg8 (lrf _);have hE1012:=hE11.trans hE12;have hE612:=hE610.trans hE1012;have hEw12:=hEw6.trans hE612;have hRw12:=hRw6.ext hE612;have m70:=hE1012.cell m70;have m71:=hE1012.cell m71;have iN:=iN.ext hE1012;have iR12:=iR.ext hE612;have m60:=hE612.cell m60;have m61:=hE612.cell m61;have iK:Ax w12 (.agg (Ab s8 a8 n8 c8).toArray) (K:Int):=⟨s8,a8,n8,c8,rfl,HS8,hx8.ext hE12⟩;have m80:=hB8.c 0 rfl;have m81:=hB8.c 1 rfl;have y0:=hE612.cell y0;have y1:=hE612.cell y1;have y2:=hE612.cell y2;have y3:=hE612.cell y3;have z0:=hE612.cell z0
       have z1:=hE612.cell z1;have z2:=hE612.cell z2;have z3:=hE612.cell z3;clear hl8 hY;have HF6:=fun (wx:World) (hC:Ext w12 wx)=>qh (And.intro (hC.cell y0) (And.intro (hC.cell y1) (And.intro (hC.cell y2) (And.intro (hC.cell y3) (And.intro (hC.cell z0) (And.intro (hC.cell z1) (And.intro (hC.cell z2) (And.intro (hC.cell z3) (And.intro (hC.cell m60) (And.intro (hC.cell m61) (And.intro (hC.cell m70) (And.intro (hC.cell m71) (And.intro (hC.cell m80) (hC.cell m81))))))))))))))
       refine Af (by kernel_rfl) (fun wx=>Ext w12 wx)
        [he (.agg #[.bool s7, .slice a7 n7 c7]),
 he (.agg #[.bool s8, .slice a8 n8 c8]),
 hp (fun v wx=>NI ((p+q).num) v wx),
 he (.agg #[.bool s6, .slice a6 n6 c6]),
 he (.pointer (some ⟨(w.heap.size+1),2,none⟩)),
 he (.agg #[.bool false, .slice b' m' d']),
 he (.agg #[.bool s8, .slice a8 n8 c8]),
 hp (fun v wx=>NI (((q.den/K:Nat):Int)) v wx),
 hp (fun v wx=>NI (((p+q).den:Int)) v wx),
 hp (fun v wx=>∃ cs,v = .agg cs.toArray∧DD wx cs (p+q))]
        (by kernel_rfl) (fun _ _ e h=>h.trans e) ((Ext.refl w12).drew) ⟨trivial,trivial,NI.x _,trivial,trivial,trivial,trivial,NI.x _,NI.x _,fun v w w' e ⟨cs,h1,h2⟩=>⟨cs,h1,h2.ext e⟩,trivial⟩ ⟨?o0, ?o1, ?o2, ?o3, ?o4, ?o5, ?o6, ?o7, ?o8, ?o9,trivial⟩ ?fin
       case o0=>exact ol2 rfl rfl (fun _ _=>id) ⟨by kernel_rfl,by kernel_rfl⟩ (by assumption) (by assumption)
       case o1=>exact ol2 rfl rfl (fun _ _=>id) ⟨by kernel_rfl,by kernel_rfl⟩ (by assumption) (by assumption)
       case o2 =>
        refine Aj rfl fun ρ wx hC hcst hfn h => ?_;have e1:ρ (.tmp 92)=(.agg #[.bool s7, .slice a7 n7 c7]):=h.2.1;have e2:ρ (.tmp 93)=(.agg #[.bool s8, .slice a8 n8 c8]):=h.2.2.1;obtain ⟨kx0,kx1,kx2,kx3,ky0,ky1,ky2,ky3,m60,m61,m70,m71,m80,m81⟩:=(HF6 wx hC).out;refine ⟨119,#[.agg #[.bool s7, .slice a7 n7 c7], .agg #[.bool s8, .slice a8 n8 c8]],by go_simp,((hq3 wx _ _ (iN.ext hC) (iK.ext hC)).out).mono ?_⟩;rintro e w' ⟨s',a',n',c',rfl,hE',hs',hn'⟩;exact ⟨_,rfl,hE',s',a',n',c',rfl,hs',hn'⟩
       case o3=>exact ol2 rfl rfl (fun _ _=>id) ⟨by kernel_rfl,by kernel_rfl⟩ (by assumption) (by assumption)
       case o4=>exact ofa (d:=2) rfl rfl (fun _ _=>id) (by kernel_rfl) rfl
       case o5=>exact ol2 rfl rfl (fun _ _=>id) ⟨by kernel_rfl,by kernel_rfl⟩ (by assumption) (by assumption)
       case o6=>exact ol2 rfl rfl (fun _ _=>id) ⟨by kernel_rfl,by kernel_rfl⟩ (by assumption) (by assumption)
       case o7 =>
        refine Aj rfl fun ρ wx hC hcst hfn h => ?_;have e1:ρ (.tmp 97)=(.agg #[.bool false, .slice b' m' d']):=h.2.1;have e2:ρ (.tmp 98)=(.agg #[.bool s8, .slice a8 n8 c8]):=h.2.2.1;obtain ⟨kx0,kx1,kx2,kx3,ky0,ky1,ky2,ky3,m60,m61,m70,m71,m80,m81⟩:=(HF6 wx hC).out;refine ⟨119,#[.agg #[.bool false, .slice b' m' d'], .agg #[.bool s8, .slice a8 n8 c8]],by go_simp,((hq4 wx (hEw12.trans hC) _ (iK.ext hC)).out).mono ?_⟩;rintro e w' ⟨s',a',n',c',rfl,hE',hs',hn'⟩;exact ⟨_,rfl,hE',s',a',n',c',rfl,hs',hn'⟩
       case o8 =>
        refine Aj rfl fun ρ wx hC hcst hfn h => ?_;have e1:ρ (.tmp 95)=(.agg #[.bool s6, .slice a6 n6 c6]):=h.2.1;obtain ⟨v2,e2,s2,a2,n2,c2,rfl,i2,j2⟩:=h.2.2.1;obtain ⟨kx0,kx1,kx2,kx3,ky0,ky1,ky2,ky3,m60,m61,m70,m71,m80,m81⟩:=(HF6 wx hC).out;refine ⟨98,#[.agg #[.bool s6, .slice a6 n6 c6], .agg (Ab s2 a2 n2 c2).toArray],by go_simp,((hm4 wx _ _ (iR12.ext hC) ⟨s2,a2,n2,c2,rfl,i2,j2⟩).out).mono ?_⟩;rintro e w' ⟨s',a',n',c',rfl,hE',hs',hn'⟩;exact ⟨_,rfl,hE',s',a',n',c',rfl,hs',hn'⟩
       case o9 =>
        refine Aj rfl fun ρ wx hC hcst hfn h => ?_;obtain ⟨v1,e1,s1,a1,n1,c1,rfl,i1,j1⟩:=h.2.1;obtain ⟨v2,e2,s2,a2,n2,c2,rfl,i2,j2⟩:=h.2.2.1;obtain ⟨kx0,kx1,kx2,kx3,ky0,ky1,ky2,ky3,m60,m61,m70,m71,m80,m81⟩:=(HF6 wx hC).out;refine ⟨115,#[.agg (Ab s1 a1 n1 c1).toArray, .agg (Ab s2 a2 n2 c2).toArray],by go_simp,(CF (q:=p+q) ⟨s1,a1,n1,c1,rfl,i1,j1⟩ ⟨s2,a2,n2,c2,rfl,i2,j2⟩).mono ?_⟩;rintro e w' ⟨cs,rfl,hE',hr'⟩;exact ⟨_,rfl,hE',cs,rfl,hr'⟩
       case fin =>
        intro wx hC;rintro _ ⟨s91,a91,n91,c91,rfl,HS91,hx91⟩;rintro _ ⟨s92,a92,n92,c92,rfl,HS92,hx92⟩;rintro _ ⟨s93,a93,n93,c93,rfl,HS93,hx93⟩;rintro _ ⟨_,rfl,s9,a9,n9,c9,b9,m9,d9,rfl,HS9,hx9,hy9⟩;change wpList _ _ _ _ _ _;simp only [List.length_cons,List.length_nil,List.drop_succ_cons,List.drop_zero,Act.put,List.setIfInBounds_toArray,List.set_cons_succ,List.set_cons_zero];have hR1:=hRw12.ext hC;have hl9:(An s9 a9 n9 c9 false b9 m9 d9).toArray=#[.bool s9, .slice a9 n9 c9, .bool false, .slice b9 m9 d9]:=rfl
        go_wp2_with (refine Aa (vs:=An s9 a9 n9 c9 false b9 m9 d9) rfl rfl rfl rfl rfl Ac hR1 rfl (Ap _ _ _ _ _ _ _ _) ?_; intro w9 hB9 hg9)
        exact bodyPost_ret (Al rfl Ac rfl hB9) rfl (Bf (hEw12.trans hC) hR1 (AC _ _ _ _ _ _ _ _) hg9 (by omega) HS9 hx9 hy9)
theorem PG (hT:A2 w) (h:BB w v p) (h':BB w v' q) (b1:p.num.natAbs<P2 2400) (b2:p.den<P2 2400) (b3:q.num.natAbs<P2 2400) (b4:q.den<P2 2400):Calls prog 70 #[v,v'] w (F4 w (p+q)):=by
 by_cases d1:p.den=1
 · by_cases d2:q.den=1
   · exact OK h h' b1 b3 d1 d2
   · exact OL h h' b1 b3 b4 d1 d2
 · by_cases d2:q.den=1
   · exact OM h h' b1 b3 b2 d1 d2
   · exact Np hT h h' b1 b2 b3 b4 d1 d2
end Go.Proofs.YtlpgonpfjbhmfaaGreatDoor
