/- Part Rin36. -/
import Derived.Test.YtlpgonpfjbhmfaaGreatDoorRin35
import Derived.Test.YtlpgonpfjbhmfaaGreatDoorRin33
set_option maxRecDepth 100000
set_option maxHeartbeats 100000000
namespace Go.Proofs.YtlpgonpfjbhmfaaGreatDoor
open Go Go.RowKit
noncomputable def contA (o:Option (List Pl.Tm)):List UInt8×Int:=match o with | some l=>(txt (Pl.cont l),0) | none=>([],1)
structure ContOK (l:List Pl.Tm):Prop where
 lcm:lcmD (l.map (·.2))<P2 1900
 num:∀ t∈l,t.2.num.natAbs<P2 1900
theorem cont_parts (l:List Pl.Tm):(Pl.cont l).num.natAbs≤Pl.gcdN l∧(Pl.cont l).den≤lcmD (l.map (·.2)):=by
 have h:=Pl.mkRat_le (n:=(Pl.gcdN l:Int)) (d:=lcmD (l.map (·.2))) (by have:=lcmD_pos (l.map (·.2)); omega);exact ⟨h.1,h.2⟩
theorem ContOK.rb {l:List Pl.Tm} (h:ContOK l) (hz:∀ t∈l,t.2≠0):Pl.RB 1900 (Pl.cont l):=by
 have h1:=gcdN_lt (P2_pos 1900) h.num hz l.length;rw [List.take_length] at h1;have h2:=cont_parts l;exact ⟨Nat.lt_of_le_of_lt h2.1 h1,Nat.lt_of_le_of_lt h2.2 h.lcm⟩
theorem poly_Content {va:Int} {a:Option Addr} {n c:Nat} {ts:List Tx} {w:World} (hT:Tabs w) (ha:TmSl w a n c ts) (sa:∀ t∈ts,t.1.length≤570) (hok:∀ l,rdP va ts=some l→ContOK l) :
 Calls Tryz.prog 20 #[.agg #[.int .i64 va, .slice a n c]] w fun e w'=>e = .returned (.tuple #[.string ⟨(contA (rdP va ts)).1.toArray⟩, .int .i64 (contA (rdP va ts)).2])∧Ext w w':=by
 have hrp:=fun (wx:World) (hC:Ext w wx)=>qh (poly_read (vars:=va) (hT.ext hC) (ha.ext hC) sa)
 have HB:Hid (∀ l,rdP va ts=some l→(∀ t∈l,Pl.RB 2280 t.2)∧(∀ t∈l,t.2≠0)∧l.length≤4096∧ContOK l):=qh (fun l h2=>by
  refine ⟨fun t ht=>(rdP_RB h2 sa t ht).mono (by omega),(rdP_canon h2).nz, ?_,hok l h2⟩
  rw [rdP_len h2]; exact (rdP_parts h2).2.1)
 obtain ⟨ol,hol⟩:∃ o,rdP va ts=o:=⟨_,rfl⟩;rw [hol] at hrp HB ⊢;clear hol sa ha hok
 go_enter Tryz.func20,Tryz.ntmps20
 go_upto_region 1 with (fail)
 refine box1 ?_;intro w0 hE0 hB0 hz0;have p00:=hB0.c 0 rfl;have p01:=hB0.c 1 rfl;clear hB0 hz0
 go_wp2_with fail
 refine (hrp _ hE0).out.mono ?_;rintro e w3 ⟨a3,n3,c3,rfl,hE3,hL3⟩;have hEw:=hE0.trans hE3;clear hrp p00 p01;cases ol with
 | none =>
  simp only [Option.isSome_none];go_wp2
  go_ret2
  exact ⟨rfl,hEw⟩
 | some l =>
  simp only [Option.isSome_some,Option.getD_some] at hL3 ⊢;have HBB:=qh (HB.out l rfl);have hll:=hL3.len;have hct:=qh (poly_content (hT.ext hEw) hL3 (by have:=HBB.out.2.2.1; omega) HBB.out.1 HBB.out.2.1 (P2_lt HBB.out.2.2.2.lcm (by omega)));have hrb:=HBB.out.2.2.2.rb HBB.out.2.1;have HST:Hid (StrOK (Pl.cont l)):=qh (strOK_big (P2_lt hrb.1 (by omega)) (P2_lt hrb.2 (by omega)));clear HB hL3 hll hrb
  go_wp2_with fail
  refine hct.out.mono ?_;rintro e w4 ⟨cs,rfl,hE4,hr4⟩;have hEw4:=hEw.trans hE4;have hst:=qh (HST.out w4 (.agg cs.toArray) (hT.ext hEw4) ⟨cs,rfl,hr4⟩);clear hct hr4
  go_wp2_with fail
  refine hst.out.mono ?_;rintro e w5 ⟨rfl,hE5⟩;go_wp2
  go_ret2
  exact ⟨rfl,hEw4.trans hE5⟩
noncomputable def primF (l:List Pl.Tm):Rat:=if 0<l.length∧(l.getD 0 ([],0)).2.num<0 then -(Pl.cont l)⁻¹ else (Pl.cont l)⁻¹
noncomputable def primA (va:Int) (o:Option (List Pl.Tm)):Int×List Tx×Int:=match o with | some l=>resQ va (sclR (primF l) l) | none=>(0,[],1)
theorem RB.inv {b:Nat} {q:Rat} (h:Pl.RB b q) (hb:1≤b):Pl.RB b q⁻¹:=by
 rcases Int.lt_trichotomy q.num 0 with h1|h1|h1
 · obtain ⟨e1,e2⟩:=Pl.rat_inv_neg h1;exact ⟨by rw [e1]; simpa using h.2,by rw [e2]; exact h.1⟩
 · have:q=0:=Pl.rat_num_den_zero.1 h1;rw [this,Pl.rat_inv_zero];exact Pl.RB.zero hb
 · obtain ⟨e1,e2⟩:=Pl.rat_inv_pos h1;exact ⟨by rw [e1]; simpa using h.2,by rw [e2]; exact h.1⟩
theorem primF_rb {l:List Pl.Tm} (h:ContOK l) (hz:∀ t∈l,t.2≠0):Pl.RB 1900 (primF l):=by
 have h1:=RB.inv (h.rb hz) (by omega);unfold primF;split
 · exact h1.neg
 · exact h1
theorem poly_Primitive {va:Int} {a:Option Addr} {n c:Nat} {ts:List Tx} {w:World} (hT:Tabs w) (ha:TmSl w a n c ts) (sa:∀ t∈ts,t.1.length≤570) (hok:∀ l,rdP va ts=some l→ContOK l∧FitsP (sclR (primF l) l)) :
 Calls Tryz.prog 22 #[.agg #[.int .i64 va, .slice a n c]] w (RetA3 w (primA va (rdP va ts))):=by
 have hrp:=fun (wx:World) (hC:Ext w wx)=>qh (poly_read (vars:=va) (hT.ext hC) (ha.ext hC) sa)
 have HB:Hid (∀ l,rdP va ts=some l→(∀ t∈l,Pl.RB 2280 t.2)∧(∀ t∈l,t.2≠0)∧l.length≤4096∧ContOK l∧(0≤va∧va≤6)∧FitsP (sclR (primF l) l)∧Pl.Nrm (sclR (primF l) l)∧Pl.RB 2400 (primF l)):=qh (fun l h2=>by
  refine ⟨fun t ht=>(rdP_RB h2 sa t ht).mono (by omega),(rdP_canon h2).nz, ?_,(hok l h2).1,(rdP_parts h2).1,(hok l h2).2,sclR_nrm (canon_nrm (rdP_canon h2)),(primF_rb (hok l h2).1 (rdP_canon h2).nz).mono (by omega)⟩
  rw [rdP_len h2]; exact (rdP_parts h2).2.1)
 obtain ⟨ol,hol⟩:∃ o,rdP va ts=o:=⟨_,rfl⟩;rw [hol] at hrp HB ⊢;clear hol sa ha hok
 go_enter Tryz.func22,Tryz.ntmps22
 go_upto_region 1 with (fail)
 refine box2 ?_;intro w0 hE0 hB0 hB1 hz0;have p00:=hB0.c 0 rfl;have p01:=hB0.c 1 rfl;have hR:Arr w0 (w.heap.size+1) 25 (polyL 0 none 0 0):=hB1;have hP:Arr w0 w.heap.size 25 (polyL va a n c):=hB0;have hpz:(polyL 0 none 0 0).toArray=#[.int .i64 0, .slice none 0 0]:=rfl;clear hB0 hB1 hz0;have hsz:=hE0.size
 go_wp2_with fail
 refine (hrp _ hE0).out.mono ?_;rintro e w1 ⟨a3,n3,c3,rfl,hE1,hL1⟩;have hEw1:=hE0.trans hE1;have hR1:=hR.ext hE1;have p00:=hE1.cell p00;have hP:=hP.ext hE1;clear p01 hR hrp hE0 hE1;cases ol with
 | none =>
  simp only [Option.isSome_none]
  go_wp2_with (refine wl_stArr (vs:=polyL 0 none 0 0) rfl rfl rfl rfl rfl agg_Poly hR1 rfl (polyL_one _ _ _ _) ?_; intro w9 hB9 hg9)
  refine bodyPost_ret (res_ct rfl agg_Poly rfl rfl hB9) rfl ?_;exact ⟨none,0,0,rfl,hEw1.grownR hg9 (by omega),TmO.nil _ _⟩
 | some l =>
  simp only [Option.isSome_some,Option.getD_some] at hL1 ⊢;have HBB:=qh (HB.out l rfl);have hva:=HBB.out.2.2.2.2.1;have hll:=hL1.len;have hn3:n3≤4096:=by have:=HBB.out.2.2.1; omega
  obtain ⟨vn,rfl⟩:∃ j:Nat,va=(j:Int):=⟨va.toNat,by omega⟩;have hct:=qh (poly_content (hT.ext hEw1) hL1 (by omega) HBB.out.1 HBB.out.2.1 (P2_lt HBB.out.2.2.2.1.lcm (by omega)));have HLL:=qh hll;clear HB hll hva
  go_wp2_with fail
  refine hct.out.mono ?_;rintro e w2 ⟨cs,rfl,hE2,hr2⟩;have hiv:=qh (rat_Inverse (v := .agg cs.toArray) (q:=Pl.cont l) (w:=w2) ⟨cs,rfl,hr2⟩);clear hct hr2
  go_wp2_with fail
  refine hiv.out.mono ?_;rintro e w3 ⟨_,rfl,hE3,s1,a1,n1,c1,b1,m1,d1,rfl,HS1,hx1,hy1⟩;have hE13:=hE2.trans hE3;have hY:=Arr.new w3 97 (ratL false none 0 0 false none 0 0);have hl1:(ratL s1 a1 n1 c1 false b1 m1 d1).toArray=#[.bool s1, .slice a1 n1 c1, .bool false, .slice b1 m1 d1]:=rfl;clear hiv hE2 hE3
  go_upto_region 5 with (refine wl_stArr (vs:=ratL s1 a1 n1 c1 false b1 m1 d1) rfl rfl rfl rfl rfl agg_Ratio hY rfl (ratL_one _ _ _ _ _ _ _ _) ?_; intro w4 hB4 hg4)
  have hE4:Ext w3 w4:=((Ext.refl w3).alloc _).grownR hg4 (Nat.le_refl _);have hE14:=hE13.trans hE4;have hR4:=hR1.ext hE14;have hL4:=hL1.ext hE14;have p00:=hE14.cell p00;have hP:=hP.ext hE14;have hEw4:=hEw1.trans hE14;have hr4:RatC w4 (ratL s1 a1 n1 c1 false b1 m1 d1) (Pl.cont l)⁻¹:=⟨s1,a1,n1,c1,b1,m1,d1,rfl,HS1,hx1.ext hE4,hy1.ext hE4⟩;have hX0:=hB4.lt;obtain ⟨X,hX⟩:∃ x,w3.heap.size=x:=⟨_,rfl⟩;have hXR:w.heap.size+1<X:=by rw [←hX]; exact (hR1.ext hE13).lt
  have hX1:w1.heap.size≤X:=by rw [←hX]; exact hE13.size
  rw [hX] at hB4 hX0 ⊢;clear hY hg4 hR1 hL4 hE13 hx1 hy1 HS1 hX hl1 hE4;rcases Nat.eq_zero_or_pos n3 with hn0|hn0
  case' inl =>
   have HPF:Hid (primF l=(Pl.cont l)⁻¹):=qh (if_neg (by have:=HLL.out; omega));have hq:decide (0<n3)=false:=decide_eq_false (by omega);have hq':¬ 0<n3:=by omega
   clear hn0;go_wp2;clear hq hq'
  case' inr =>
   obtain ⟨rows,hS,hlen,hRW⟩:=hL1.ext hE14;obtain ⟨sx,ax,nx,cx,bx,mx,dx,hrow,h6,hrc⟩:=hRW 0 hn0
   have HHD:Hid (primF l=if (l.getD 0 ([],0)).2.num<0 then -(Pl.cont l)⁻¹ else (Pl.cont l)⁻¹):=qh (by
    unfold primF;have h0:0<l.length:=by have:=HLL.out; omega
    simp only [h0,true_and])
   generalize l.getD 0 ([],0)=t at *
   obtain ⟨te,tq⟩:=t;simp only at hrow h6 hrc HHD;obtain ⟨bb,off,rfl,hcell⟩:=hS.rd (by omega);obtain ⟨x0,x1,x2,x3,x4,x5,rfl⟩:=six_of h6;have e6:=hcell 0 hn0 6 (by omega);have e7:=hcell 0 hn0 7 (by omega);have e8:=hcell 0 hn0 8 (by omega);have e9:=hcell 0 hn0 9 (by omega);rw [hrow] at e6 e7 e8 e9;simp only [entL,ratL,intL,List.map_cons,List.map_nil,List.cons_append,List.nil_append,List.getD_cons_succ,List.getD_cons_zero,Nat.zero_mul,Nat.add_zero] at e6 e7 e8 e9;have hq:decide ((0:Int)<(n3:Int))=true:=decide_eq_true (by omega);have hq2:(0:Int)<(n3:Int):=by omega
   obtain ⟨sg,hsg⟩:∃ x,tq.num.sign=x:=⟨_,rfl⟩;have hsn:=qh (rat_Sign (v := .agg #[.bool sx, .slice ax nx cx, .bool false, .slice bx mx dx]) (q:=tq) (w:=w4) ⟨ratL sx ax nx cx false bx mx dx,rfl,hrc⟩ hsg);have HSG:Hid (sg<0↔tq.num<0):=qh (by rw [←hsg]; exact Int.sign_neg_iff);clear hRW hlen hrow hcell hrc hS h6 hsg
   go_wp2_with fail
   refine hsn.out.mono ?_;rintro e w4 ⟨rfl,hE5⟩;have hEw4:=hEw4.trans hE5;have hE14:=hE14.trans hE5;have hB4:=hB4.ext hE5;have hR4:=hR4.ext hE5;have hr4:=hr4.ext hE5;have p00:=hE5.cell p00;have hP:=hP.ext hE5;clear hsn hE5 e6 e7 e8 e9;generalize (some (⟨bb,off,none⟩:Addr))=a3 at *
   by_cases hs:sg<0
   case' pos =>
    have HPF:Hid (primF l = -(Pl.cont l)⁻¹):=qh (by rw [HHD.out,if_pos (HSG.out.1 hs)]);have hds:decide (sg<0)=true:=decide_eq_true hs;have y0:=hB4.c 0 rfl;have y1:=hB4.c 1 rfl;have y2:=hB4.c 2 rfl;have y3:=hB4.c 3 rfl;have hng:=qh (rat_Neg (v := .agg #[.bool s1, .slice a1 n1 c1, .bool false, .slice b1 m1 d1]) (q:=(Pl.cont l)⁻¹) (w:=w4) ⟨ratL s1 a1 n1 c1 false b1 m1 d1,rfl,hr4⟩);clear HHD HSG
    go_wp2_with fail
    refine hng.out.mono ?_;rintro e w5 ⟨_,rfl,hE5,s1,a1,n1,c1,b1,m1,d1,rfl,HS1,hx1,hy1⟩;have hB5:=hB4.ext hE5;have hl1:(ratL s1 a1 n1 c1 false b1 m1 d1).toArray=#[.bool s1, .slice a1 n1 c1, .bool false, .slice b1 m1 d1]:=rfl;clear hng y0 y1 y2 y3 hds hs
    go_upto_region 7 with (refine wl_stArr (vs:=ratL s1 a1 n1 c1 false b1 m1 d1) rfl rfl rfl rfl rfl agg_Ratio hB5 rfl (ratL_one _ _ _ _ _ _ _ _) ?_; intro w4 hB6 hg6)
    have hnu:=ratL_nu;have hr6:RatC w4 (ratL s1 a1 n1 c1 false b1 m1 d1) (-(Pl.cont l)⁻¹):=by
     exact RatC.keptU ⟨s1,a1,n1,c1,b1,m1,d1,rfl,HS1,hx1,hy1⟩ (hB5.noU (ratL_nu _ _ _ _ _ _ _ _)) hg6
    have hr4:=hr6;have hEw4:=(hEw4.trans hE5).grownR hg6 (by omega);have hE14:=(hE14.trans hE5).grownR hg6 hX1;have hR4:=(hR4.ext hE5).kept hg6 (by simp; omega);have hP:=(hP.ext hE5).kept hg6 (by simp; omega);have p00:=hP.c 0 rfl;have hB4:=hB6;clear hB6 hr6 hl1 hg6 hB5 hE5 HS1 hx1 hy1 hnu
   case' neg =>
    have HPF:Hid (primF l=(Pl.cont l)⁻¹):=qh (by rw [HHD.out,if_neg (fun h=>hs (HSG.out.2 h))]);have hds:decide (sg<0)=false:=decide_eq_false hs;clear HHD HSG;go_wp2;clear hds hs
  all_goals
   rw [←HPF.out] at hr4;have hEw:=hEw4;have hL4:=hL1.ext hE14;have HFT:Hid (FitsP (sclR (primF l) l)):=qh HBB.out.2.2.2.2.2.1;have hva:=HBB.out.2.2.2.2.1;have y0:=hB4.c 0 rfl;have y1:=hB4.c 1 rfl;have y2:=hB4.c 2 rfl;have y3:=hB4.c 3 rfl;have hscl:=fun (wx:World) (hC:Ext w4 wx)=>qh (poly_scale ((hT.ext hEw).ext hC) (v := .agg #[.bool s1, .slice a1 n1 c1, .bool false, .slice b1 m1 d1]) (q:=primF l) ⟨ratL s1 a1 n1 c1 false b1 m1 d1,rfl,hr4.ext hC⟩ (hL4.ext hC) (by omega) HBB.out.2.2.2.2.2.2.2 (fun t ht=>(HBB.out.1 t ht).mono (by omega)));clear hB4 hr4 hL4 hE14 hL1;go_wp2
   obtain ⟨rr,HRR⟩:∃ r,Hid (resQ (vn:Int) (sclR (primF l) l)=r):=⟨_,qh rfl⟩
   refine wp_region_typed2 (by kernel_rfl) (fun wx=>Ext w4 wx)
    [he (.pointer (some ⟨w.heap.size,0,none⟩)),
 he (.int .i64 (vn:Int)),
 he (.agg #[.bool s1, .slice a1 n1 c1, .bool false, .slice b1 m1 d1]),
 he (.slice a3 n3 c3),
 hu 5 (fun v wx=>NOut w4 (sclR (primF l) l) v wx),
 hmp (fun v wx=>NPE w4 rr v wx),
 hp (fun v wx=>NPo w4 rr v wx),
 he (.int .i64 rr.2.2)]
    (by kernel_rfl) (fun _ _ e h=>h.trans e) ((Ext.refl w4).drew) ⟨trivial,trivial,trivial,trivial,NOut.x _ _,NPE.x _ _,NPo.x _ _,trivial,trivial⟩ ⟨?o0, ?o1, ?o2, ?o3, ?o4, ?o5, ?o6, ?o7,trivial⟩ ?fin
   case o0=>exact ofa (d:=0) rfl rfl (fun _ _=>id) (by kernel_rfl) rfl
   case o1=>exact ol rfl rfl (fun _ _=>id) (by kernel_rfl) (by assumption)
   case o2=>exact ol4 rfl rfl (fun _ _=>id) agg_Ratio (by assumption) (by assumption) (by assumption) (by assumption)
   case o3=>exact omv rfl rfl (fun _ _=>id)
   case o4 =>
    refine obl_cq rfl fun ρ wx hC hcst hfn h => ?_;have e0:ρ (.tmp 33)=(.agg #[.bool s1, .slice a1 n1 c1, .bool false, .slice b1 m1 d1]):=h.2.1;have e1:ρ (.tmp 34)=(.slice a3 n3 c3):=h.2.2.1;refine ⟨66,#[.agg #[.bool s1, .slice a1 n1 c1, .bool false, .slice b1 m1 d1], .slice a3 n3 c3],by go_simp,((hscl wx hC).out).mono ?_⟩;rintro e w' ⟨a7,n7,c7,rfl,hE7,hO7⟩;exact ⟨_,rfl,hE7,a7,n7,c7,sclR (primF l) l,rfl,hO7.mono hC.size,HBB.out.2.2.2.2.2.2.1,fun _=>rfl⟩
   case o5 =>
    refine obl_callM rfl ?_;intro ρ wx hp hC h;have hcst:=hp.const;have hfn:=hp.func;have e0:ρ (.tmp 32)=(.int .i64 (vn:Int)):=h.2.1;obtain ⟨v1,e1,a1',n1',c1',o1',rfl,f1',g1',h1'⟩:=h.2.2.1;have hfo:=HFT.out.out g1' h1';have hlo:=f1'.len;refine ⟨45,#[.int .i64 (vn:Int), .slice a1' n1' c1'],by go_simp,(poly_write (vars:=vn) (w0:=w4) (hT.ext hEw) hC f1' (by omega) hfo.1 hfo.2.1 (by omega)).mono ?_⟩;intro e w' hw;have hq:=RetWr.q hw g1' h1';rw [HRR.out] at hq;obtain ⟨a7,n7,c7,rfl,hE7,hO7⟩:=hq
    exact ⟨_,rfl,hE7,⟨trivial,trivial,trivial,trivial,trivial,trivial,trivial,trivial,trivial⟩,a7,n7,c7,rfl,hO7⟩
   case o6 =>
    refine obl_ext rfl ?_;intro ρ wx hp hC h;obtain ⟨v0,e0,a0',n0',c0',rfl,f0'⟩:=h.1;exact ⟨polyV rr.1 a0' n0' c0',wx,by go_simp,Ext.refl _,a0',n0',c0',rfl,f0'⟩
   case o7 =>
    refine obl_pure rfl ?_;intro ρ wx hp hC h;obtain ⟨v0,e0,a0',n0',c0',rfl,f0'⟩:=h.1;go_simp
   case fin =>
    intro wx hC;rintro _;rintro _ h42;rintro _ h43;change wpList _ _ _ _ _ _;simp only [List.length_cons,List.length_nil,List.drop_succ_cons,List.drop_zero,Act.put,List.setIfInBounds_toArray,List.set_cons_succ,List.set_cons_zero];obtain ⟨a7,n7,c7,rfl,hO7⟩:=h43;clear h42;have hEx:=hEw.trans hC;have hRx:=hR4.ext hC;have hpv:polyV rr.1 a7 n7 c7 = .agg #[.int .i64 rr.1, .slice a7 n7 c7]:=rfl;rw [hpv];have hpl:(polyL rr.1 a7 n7 c7).toArray=#[.int .i64 rr.1, .slice a7 n7 c7]:=rfl
    go_wp2_with (refine wl_stArr (vs:=polyL rr.1 a7 n7 c7) rfl rfl rfl rfl rfl agg_Poly hRx rfl (polyL_one _ _ _ _) ?_; intro w8 hB8 hg8)
    refine bodyPost_ret (res_ct rfl agg_Poly rfl rfl hB8) rfl ?_;show RetA3 _ (primA _ _) _ _;rw [show primA (vn:Int) (some l)=resQ (vn:Int) (sclR (primF l) l) from rfl,HRR.out];exact ⟨a7,n7,c7,rfl,hEx.grownR hg8 (by omega),(hO7.mono hEw.size).keptA hRx hg8⟩
def RetScl (w:World) (va:Int) (oq:Option Rat) (ol:Option (List Pl.Tm)) (e:Ending) (w':World):Prop :=
 (∃ q l,oq=some q∧ol=some l∧RetA3 w (resQ va (sclR q l)) e w')∨((oq.isSome && ol.isSome)=false∧RetP w 0 [] 1 e w')
theorem poly_Scale {s:ByteArray} {va:Int} {a:Option Addr} {n c:Nat} {ts:List Tx} {w:World} (hT:Tabs w) (ha:TmSl w a n c ts) (hs:s.size≤570) (sa:∀ t∈ts,t.1.length≤570)
 (hok:∀ q l,readQ (strL s)=some q→rdP va ts=some l→FitsP (sclR q l)) :
 Calls Tryz.prog 23 #[.string s, .agg #[.int .i64 va, .slice a n c]] w (RetScl w va (readQ (strL s)) (rdP va ts)):=by
 have hrq:=fun (wx:World) (hC:Ext w wx)=>qh (rat_Read (s:=s) (hT.ext hC) hs);have hrp:=fun (wx:World) (hC:Ext w wx)=>qh (poly_read (vars:=va) (hT.ext hC) (ha.ext hC) sa)
 have HB:Hid (∀ q l,readQ (strL s)=some q→rdP va ts=some l→Pl.RB 2400 q∧(∀ t∈l,Pl.RB 2400 t.2)∧FitsP (sclR q l)∧Pl.Nrm (sclR q l)∧l.length≤4096∧0≤va∧va≤6):=qh (fun q l h1 h2=>by
  refine ⟨?_,fun t ht=>(rdP_RB h2 sa t ht).mono (by omega),hok q l h1 h2,sclR_nrm (canon_nrm (rdP_canon h2)), ?_,(rdP_parts h2).1⟩
  · have h3:=readQ_eq h1;exact (txt_RB (k:=570) (by rw [←h3,strL_len]; exact hs)).mono (by omega)
  · rw [rdP_len h2]; exact (rdP_parts h2).2.1)
 obtain ⟨oq,hoq⟩:∃ o,readQ (strL s)=o:=⟨_,rfl⟩;obtain ⟨ol,hol⟩:∃ o,rdP va ts=o:=⟨_,rfl⟩;rw [hoq] at hrq HB ⊢;rw [hol] at hrp HB ⊢;clear hoq hol sa hs ha hok
 go_enter Tryz.func23,Tryz.ntmps23
 go_upto_region 1 with (fail)
 refine box2 ?_;intro w0 hE0 hB0 hB1 hz0;have p00:=hB0.c 0 rfl;have p01:=hB0.c 1 rfl;have hR:Arr w0 (w.heap.size+1) 25 (polyL 0 none 0 0):=hB1;have hpz:(polyL 0 none 0 0).toArray=#[.int .i64 0, .slice none 0 0]:=rfl;clear hB0 hB1 hz0
 go_wp2_with fail
 refine (hrq _ hE0).out.mono ?_;rintro e w1 ⟨_,rfl,hE1,s1,a1,n1,c1,b1,m1,d1,rfl,HS1,hx1,hy1⟩;have hY:=Arr.new w1 97 (ratL false none 0 0 false none 0 0);have hl1:(ratL s1 a1 n1 c1 false b1 m1 d1).toArray=#[.bool s1, .slice a1 n1 c1, .bool false, .slice b1 m1 d1]:=rfl
 go_upto_region 2 with (refine wl_stArr (vs:=ratL s1 a1 n1 c1 false b1 m1 d1) rfl rfl rfl rfl rfl agg_Ratio hY rfl (ratL_one _ _ _ _ _ _ _ _) ?_; intro w2 hB2 hg2)
 have hE2:Ext w1 w2:=((Ext.refl w1).alloc _).grownR hg2 (Nat.le_refl _);have hE12:=hE1.trans hE2;have hEw2:=hE0.trans hE12;have hx2:=hx1.ext hE2;have hy2:=hy1.ext hE2;have hsz:=hE0.size;have hR2:=hR.ext hE12;have p00:=hE12.cell p00;have p01:=hE12.cell p01;obtain ⟨X,hX⟩:∃ x,w1.heap.size=x:=⟨_,rfl⟩;rw [hX] at hB2 ⊢;clear hrq hY hg2 hE1 hE2 hx1 hy1 hR hX hl1 hE0
 go_wp2_with fail
 refine (hrp _ hEw2).out.mono ?_;rintro e w3 ⟨a3,n3,c3,rfl,hE3,hL3⟩;have hEw:=hEw2.trans hE3;have hR3:=hR2.ext hE3;have hB3:=hB2.ext hE3;have hx3:=hx2.ext hE3;have hy3:=hy2.ext hE3;have p00:=hE3.cell p00;clear p01 hR2 hB2 hx2 hy2 hrp hE12 hEw2;cases oq with
 | none =>
  simp only [Option.isSome_none]
  go_wp2_with (refine wl_stArr (vs:=polyL 0 none 0 0) rfl rfl rfl rfl rfl agg_Poly hR3 rfl (polyL_one _ _ _ _) ?_; intro w9 hB9 hg9)
  refine bodyPost_ret (res_ct rfl agg_Poly rfl rfl hB9) rfl ?_;exact Or.inr ⟨rfl,none,0,0,rfl,hEw.grownR hg9 (by omega),TmO.nil _ _⟩
 | some q =>
  cases ol with
  | none =>
   simp only [Option.isSome_none,Option.isSome_some]
   go_wp2_with (refine wl_stArr (vs:=polyL 0 none 0 0) rfl rfl rfl rfl rfl agg_Poly hR3 rfl (polyL_one _ _ _ _) ?_; intro w9 hB9 hg9)
   refine bodyPost_ret (res_ct rfl agg_Poly rfl rfl hB9) rfl ?_;exact Or.inr ⟨rfl,none,0,0,rfl,hEw.grownR hg9 (by omega),TmO.nil _ _⟩
  | some l =>
   simp only [Option.isSome_some,Option.getD_some] at hL3 hx3 hy3 HS1 ⊢;have hva:=(HB.out q l rfl rfl).2.2.2.2.2;have HLL:Hid (l.length=n3):=qh hL3.len;have HBB:=qh (HB.out q l rfl rfl);obtain ⟨vn,rfl⟩:∃ k:Nat,va=(k:Int):=⟨va.toNat,by omega⟩;have hscl:=fun (wx:World) (hC:Ext w3 wx)=>qh (poly_scale ((hT.ext hEw).ext hC) (v := .agg #[.bool s1, .slice a1 n1 c1, .bool false, .slice b1 m1 d1]) (q:=q) ⟨ratL s1 a1 n1 c1 false b1 m1 d1,rfl,s1,a1,n1,c1,b1,m1,d1,rfl,HS1,hx3.ext hC,hy3.ext hC⟩ (hL3.ext hC) (by have:=HBB.out.2.2.2.2.1; have:=HLL.out; omega) HBB.out.1 HBB.out.2.1)
   have HFT:Hid (FitsP (sclR q l)):=qh HBB.out.2.2.1;have y0:=hB3.c 0 rfl;have y1:=hB3.c 1 rfl;have y2:=hB3.c 2 rfl;have y3:=hB3.c 3 rfl;clear HB hB3 hx3 hy3 hL3;go_wp2;obtain ⟨rr,HRR⟩:∃ r,Hid (resQ (vn:Int) (sclR q l)=r):=⟨_,qh rfl⟩
   refine wp_region_typed2 (by kernel_rfl) (fun wx=>Ext w3 wx)
    [he (.pointer (some ⟨w.heap.size,0,none⟩)),
 he (.int .i64 (vn:Int)),
 he (.agg #[.bool s1, .slice a1 n1 c1, .bool false, .slice b1 m1 d1]),
 he (.slice a3 n3 c3),
 hu 5 (fun v wx=>NOut w3 (sclR q l) v wx),
 hmp (fun v wx=>NPE w3 rr v wx),
 hp (fun v wx=>NPo w3 rr v wx),
 he (.int .i64 rr.2.2)]
    (by kernel_rfl) (fun _ _ e h=>h.trans e) ((Ext.refl w3).drew) ⟨trivial,trivial,trivial,trivial,NOut.x _ _,NPE.x _ _,NPo.x _ _,trivial,trivial⟩ ⟨?o0, ?o1, ?o2, ?o3, ?o4, ?o5, ?o6, ?o7,trivial⟩ ?fin
   case o0=>exact ofa (d:=0) rfl rfl (fun _ _=>id) (by kernel_rfl) rfl
   case o1=>exact ol rfl rfl (fun _ _=>id) (by kernel_rfl) (by assumption)
   case o2=>exact ol4 rfl rfl (fun _ _=>id) ⟨by kernel_rfl,by kernel_rfl⟩ (by assumption) (by assumption) (by assumption) (by assumption)
   case o3=>exact omv rfl rfl (fun _ _=>id)
   case o4 =>
    refine obl_cq rfl fun ρ wx hC hcst hfn h => ?_;have e0:ρ (.tmp 29)=(.agg #[.bool s1, .slice a1 n1 c1, .bool false, .slice b1 m1 d1]):=h.2.1;have e1:ρ (.tmp 30)=(.slice a3 n3 c3):=h.2.2.1;refine ⟨66,#[.agg #[.bool s1, .slice a1 n1 c1, .bool false, .slice b1 m1 d1], .slice a3 n3 c3],by go_simp,((hscl wx hC).out).mono ?_⟩;rintro e w' ⟨a7,n7,c7,rfl,hE7,hO7⟩;exact ⟨_,rfl,hE7,a7,n7,c7,sclR q l,rfl,hO7.mono hC.size,HBB.out.2.2.2.1,fun _=>rfl⟩
   case o5 =>
    refine obl_callM rfl ?_;intro ρ wx hp hC h;have hcst:=hp.const;have hfn:=hp.func;have e0:ρ (.tmp 28)=(.int .i64 (vn:Int)):=h.2.1;obtain ⟨v1,e1,a1',n1',c1',o1',rfl,f1',g1',h1'⟩:=h.2.2.1;have hfo:=HFT.out.out g1' h1';have hlo:=f1'.len;refine ⟨45,#[.int .i64 (vn:Int), .slice a1' n1' c1'],by go_simp,(poly_write (vars:=vn) (w0:=w3) (hT.ext hEw) hC f1' (by omega) hfo.1 hfo.2.1 (by omega)).mono ?_⟩;intro e w' hw;have hq:=RetWr.q hw g1' h1';rw [HRR.out] at hq;obtain ⟨a7,n7,c7,rfl,hE7,hO7⟩:=hq
    exact ⟨_,rfl,hE7,⟨trivial,trivial,trivial,trivial,trivial,trivial,trivial,trivial,trivial⟩,a7,n7,c7,rfl,hO7⟩
   case o6 =>
    refine obl_ext rfl ?_;intro ρ wx hp hC h;obtain ⟨v0,e0,a0',n0',c0',rfl,f0'⟩:=h.1;exact ⟨polyV rr.1 a0' n0' c0',wx,by go_simp,Ext.refl _,a0',n0',c0',rfl,f0'⟩
   case o7 =>
    refine obl_pure rfl ?_;intro ρ wx hp hC h;obtain ⟨v0,e0,a0',n0',c0',rfl,f0'⟩:=h.1;go_simp
   case fin =>
    intro wx hC;rintro _;rintro _ h42;rintro _ h43;change wpList _ _ _ _ _ _;simp only [List.length_cons,List.length_nil,List.drop_succ_cons,List.drop_zero,Act.put,List.setIfInBounds_toArray,List.set_cons_succ,List.set_cons_zero];obtain ⟨a7,n7,c7,rfl,hO7⟩:=h43;clear h42;have hEx:=hEw.trans hC;have hRx:=hR3.ext hC;have hpv:polyV rr.1 a7 n7 c7 = .agg #[.int .i64 rr.1, .slice a7 n7 c7]:=rfl;rw [hpv];have hpl:(polyL rr.1 a7 n7 c7).toArray=#[.int .i64 rr.1, .slice a7 n7 c7]:=rfl
    go_wp2_with (refine wl_stArr (vs:=polyL rr.1 a7 n7 c7) rfl rfl rfl rfl rfl agg_Poly hRx rfl (polyL_one _ _ _ _) ?_; intro w8 hB8 hg8)
    refine bodyPost_ret (res_ct rfl agg_Poly rfl rfl hB8) rfl ?_;exact Or.inl ⟨q,l,rfl,rfl,by rw [HRR.out]; exact ⟨a7,n7,c7,rfl,hEx.grownR hg8 (by omega),(hO7.mono hEw.size).keptA hRx hg8⟩⟩
end Go.Proofs.YtlpgonpfjbhmfaaGreatDoor
