/- Part GanLGa. -/
import Derived.Test.YtlpgonpfjbhmfaaGreatDoorGan37
import Derived.Test.YtlpgonpfjbhmfaaGreatDoorGan38
import Derived.Test.YtlpgonpfjbhmfaaGreatDoorGan34
set_option maxRecDepth 100000
set_option maxHeartbeats 100000000
namespace Go.Proofs.YtlpgonpfjbhmfaaGreatDoor
open Go Go.RowKit
theorem law_GroupAction {vp vq:Int} {x y a b z:Option Addr} {nx cx ny cy na ca nb cb nz cz:Nat} {xs ys:List Int} {tp tq:List Tx} {us:List (List UInt8)} {w:World} (hT:Tabs w) (hx:SlI w x nx cx xs) (hy:SlI w y ny cy ys) (ha:TmSl w a na ca tp) (hb:TmSl w b nb cb tq) (hu:StrSl w z nz cz us) :
 Calls Tryz.prog 3 #[.slice x nx cx, .slice y ny cy, .agg #[.int .i64 vp, .slice a na ca], .agg #[.int .i64 vq, .slice b nb cb], .slice z nz cz] w (RetTrue w):=by
 go_enter Tryz.func3,Tryz.ntmps3
 go_upto_region 1 with (fail)
 refine box2 ?_;intro w0 hE0 hB0 hB1 hz0
 have s1:=lit_slL (w:=w0) (cs:=#[.slice x nx cx, .slice y ny cy]) (xss:=[xs,ys]) (n:=2) rfl (by omega) rfl (by
  intro i hi;have:i=0∨i=1:=by omega
  rcases this with rfl|rfl
  · exact ⟨_,_,_,rfl,hx.ext hE0⟩
  · exact ⟨_,_,_,rfl,hy.ext hE0⟩)
 have HP:=(PBx.one hE0 hB0 ha).app (PBx.one hE0 hB1 hb);clear hB0 hB1 hz0 ha hb
 go_wp2_with fail
 refine (law_few s1).mono ?_;rintro e w1 ⟨rfl,rfl⟩;have hF:Ext w0 (w0.alloc (.cells #[.slice x nx cx, .slice y ny cy] 22)):=(Ext.refl w0).alloc _;replace HP:=HP.ext hF;clear hF s1;generalize w0.alloc (.cells #[.slice x nx cx, .slice y ny cy] 22)=w2 at *
 generalize [xs,ys].all (fun x=>decide (x.length≤20))=fw;cases fw with
 | false =>
  go_wp2_with fail
  refine law_awake18.mono ?_;rintro e w11 ⟨rfl,hF⟩;go_wp2;go_ret;exact ⟨rfl,HP.e.trans hF⟩
 | true =>
  by_cases s1:smallP tp 5 8;rotate_left
  · obtain ⟨x00,x01⟩:=HP.c (i:=0) rfl;have hcl:=qh (keep_SmallPoly (va:=vp) (nt:=5) (d:=8) (HP.t (i:=0) rfl));rw [decide_eq_false s1] at hcl;clear s1
    go_wp2_with fail
    refine hcl.out.mono ?_;rintro e w12 ⟨rfl,hF⟩;replace HP:=HP.ext hF;clear hcl hF x00 x01
    go_wp2_with fail
    refine law_awake18.mono ?_;rintro e w13 ⟨rfl,hF⟩;go_wp2;go_ret;exact ⟨rfl,HP.e.trans hF⟩
  obtain ⟨x00,x01⟩:=HP.c (i:=0) rfl;have hcl:=qh (keep_SmallPoly (va:=vp) (nt:=5) (d:=8) (HP.t (i:=0) rfl));rw [decide_eq_true s1] at hcl;have HS1:=qh s1;clear s1
  go_wp2_with fail
  refine hcl.out.mono ?_;rintro e w14 ⟨rfl,hF⟩;replace HP:=HP.ext hF;clear hcl hF x00 x01;by_cases s2:smallP tq 4 8;rotate_left
  · obtain ⟨x10,x11⟩:=HP.c (i:=1) rfl;have hcl:=qh (keep_SmallPoly (va:=vq) (nt:=4) (d:=8) (HP.t (i:=1) rfl));rw [decide_eq_false s2] at hcl;clear s2
    go_wp2_with fail
    refine hcl.out.mono ?_;rintro e w15 ⟨rfl,hF⟩;replace HP:=HP.ext hF;clear hcl hF x10 x11
    go_wp2_with fail
    refine law_awake18.mono ?_;rintro e w16 ⟨rfl,hF⟩;go_wp2;go_ret;exact ⟨rfl,HP.e.trans hF⟩
  obtain ⟨x10,x11⟩:=HP.c (i:=1) rfl;have hcl:=qh (keep_SmallPoly (va:=vq) (nt:=4) (d:=8) (HP.t (i:=1) rfl));rw [decide_eq_true s2] at hcl;have HS2:=qh s2;clear s2
  go_wp2_with fail
  refine hcl.out.mono ?_;rintro e w17 ⟨rfl,hF⟩;replace HP:=HP.ext hF;clear hcl hF x10 x11;obtain ⟨x00,x01⟩:=HP.c (i:=0) rfl;have hcl:=qh (poly_Valid (vars:=vp) (hT.ext HP.e) (HP.t (i:=0) rfl) (small570 HS1.out (by omega)));obtain ⟨p,hp⟩:∃ o,rdP vp tp=o:=⟨_,rfl⟩;rw [hp] at hcl
  go_wp2_with fail
  refine hcl.out.mono ?_;rintro e w18 ⟨rfl,hF⟩;replace HP:=HP.ext hF;clear hcl hF x00 x01;cases p with
  | none =>
   simp only [Option.isSome_none]
   go_wp2_with fail
   refine law_awake18.mono ?_;rintro e w19 ⟨rfl,hF⟩;go_wp2;go_ret;exact ⟨rfl,HP.e.trans hF⟩
  | some lp =>
   simp only [Option.isSome_some];have Hp:=qh hp;clear hp;obtain ⟨x10,x11⟩:=HP.c (i:=1) rfl;have hcl:=qh (poly_Valid (vars:=vq) (hT.ext HP.e) (HP.t (i:=1) rfl) (small570 HS2.out (by omega)));obtain ⟨q,hq⟩:∃ o,rdP vq tq=o:=⟨_,rfl⟩;rw [hq] at hcl
   go_wp2_with fail
   refine hcl.out.mono ?_;rintro e w20 ⟨rfl,hF⟩;replace HP:=HP.ext hF;clear hcl hF x10 x11;cases q with
   | none =>
    simp only [Option.isSome_none]
    go_wp2_with fail
    refine law_awake18.mono ?_;rintro e w21 ⟨rfl,hF⟩;go_wp2;go_ret;exact ⟨rfl,HP.e.trans hF⟩
   | some lq =>
    simp only [Option.isSome_some];have Hq:=qh hq;clear hq;obtain ⟨x00,x01⟩:=HP.c (i:=0) rfl;obtain ⟨x10,x11⟩:=HP.c (i:=1) rfl;by_cases hv:vp=vq;rotate_left
    · have qv:(vp != vq)=true:=by simpa using hv
      clear hv
      go_wp2_with fail
      refine law_awake18.mono ?_;rintro e w22 ⟨rfl,hF⟩;go_wp2;go_ret;exact ⟨rfl,HP.e.trans hF⟩
    subst hv;obtain ⟨hn0,hn6⟩:=(rdP_parts Hp.out).1;obtain ⟨n,rfl⟩:∃ k:Nat,vp=(k:Int):=⟨vp.toNat,by omega⟩;have qv:((n:Int) != (n:Int))=false:=by simp
    have c1:¬ ((n:Int)<0):=by omega
    have c2:¬ ((6:Int)<(n:Int)):=by omega
    by_cases hz:(8:Int)<(nz:Int)
    · go_wp2_with fail
      refine law_awake18.mono ?_;rintro e w23 ⟨rfl,hF⟩;go_wp2;go_ret;exact ⟨rfl,HP.e.trans hF⟩
    have hsh:=qh (keep_Short (m:=6) (hu.ext HP.e));obtain ⟨bs,hbs⟩:∃ b,us.all (fun x=>decide (x.length≤6))=b:=⟨_,rfl⟩;rw [hbs] at hsh
    go_wp2_with fail
    refine hsh.out.mono ?_;rintro e w24 ⟨rfl,rfl⟩;clear hsh x00 x01 x10 x11;cases bs with
    | false =>
     go_wp2_with fail
     refine law_awake18.mono ?_;rintro e w25 ⟨rfl,hF⟩;go_wp2;go_ret;exact ⟨rfl,HP.e.trans hF⟩
    | true =>
     have HSH:=qh hbs;clear hbs qv c1 c2;have hn:n≤6:=by omega
     clear hn0 hn6;obtain ⟨x00,x01⟩:=HP.c (i:=0) rfl
     go_wp2_with fail
     refine (permutation_ok (hx.ext HP.e) hn).mono ?_;rintro e w20 ⟨aA,cA,A,rfl,hF,hA,pA,lA⟩;replace HP:=HP.ext hF;clear hF x00 x01
     go_wp2_with fail
     refine (permutation_ok (hy.ext HP.e) hn).mono ?_;rintro e w21 ⟨aB,cB,B,rfl,hF,hB,pB,lB⟩;replace HP:=HP.ext hF;replace hA:=hA.ext hF;clear hF
     go_wp2_with fail
     refine (Compose_ok hA hB pA pB).mono ?_;rintro e w22 ⟨aC,cC,rfl,hF,hC⟩;replace HP:=HP.ext hF;replace hA:=hA.ext hF;replace hB:=hB.ext hF;have pC:=comp_perm pA pB (lA.trans lB.symm);have hEB:=HP.e;replace hu:=hu.ext hEB;replace hT:=hT.ext hEB;replace HP:PBx w22 w22 _:=⟨Ext.refl _,HP.2⟩;obtain ⟨tu,tv,GS⟩:=gapS Hp.out Hq.out HS1.out HS2.out pA pB lA lB;have LA:=qh lA;have LB:=qh lB;clear hx hy hF lA lB;obtain ⟨x00,x01⟩:=HP.c (i:=0) rfl;have hcl:=qh (group_ApplyV GS.u (hT.ext HP.e) (HP.t (i:=0) rfl) (hB.ext HP.e) pB Hp.out (small570 HS1.out (by omega)) GS.su)
     go_wp2_with fail
     refine hcl.out.mono ?_;rintro e w26 ⟨a26,n26,c26,rfl,hF,hO⟩;have hY:=Arr.new w26 25 (polyL 0 none 0 0);clear hcl x00 x01
     go_upto_region 7 with (refine wl_stPo rfl rfl rfl rfl hY rfl ?_; intro w26' hB hg)
     replace HP:=HP.new hF hO hB hg;clear hY hB hg hF hO;obtain ⟨x20,x21⟩:=HP.c (i:=2) rfl;have hcl:=qh (group_ApplyV GS.v (hT.ext HP.e) (HP.t (i:=2) rfl) (hA.ext HP.e) pA GS.ru GS.xu GS.sv)
     go_wp2_with fail
     refine hcl.out.mono ?_;rintro e w27 ⟨a27,n27,c27,rfl,hF,hO⟩;have hY:=Arr.new w27 25 (polyL 0 none 0 0);clear hcl x20 x21
     go_upto_region 8 with (refine wl_stPo rfl rfl rfl rfl hY rfl ?_; intro w27' hB hg)
     replace HP:=HP.new hF hO hB hg;clear hY hB hg hF hO;obtain ⟨x00,x01⟩:=HP.c (i:=0) rfl;have hcl:=qh (group_ApplyV GS.w (hT.ext HP.e) (HP.t (i:=0) rfl) (hC.ext HP.e) pC Hp.out (small570 HS1.out (by omega)) GS.sw)
     go_wp2_with fail
     refine hcl.out.mono ?_;rintro e w28 ⟨a28,n28,c28,rfl,hF,hO⟩;have hY:=Arr.new w28 25 (polyL 0 none 0 0);clear hcl x00 x01
     go_upto_region 9 with (refine wl_stPo rfl rfl rfl rfl hY rfl ?_; intro w28' hB hg)
     replace HP:=HP.new hF hO hB hg;clear hY hB hg hF hO;obtain ⟨x30,x31⟩:=HP.c (i:=3) rfl;obtain ⟨x40,x41⟩:=HP.c (i:=4) rfl;have hcl:=qh (keep_Polys (va:=(n:Int)) (vb:=(n:Int)) (HP.t (i:=3) rfl) (HP.t (i:=4) rfl));rw [show decide ((n:Int)=(n:Int)∧tv=tv)=true by simp] at hcl
     go_wp2_with fail
     refine hcl.out.mono ?_;rintro e w29 ⟨rfl,hF⟩;replace HP:=HP.ext hF;clear hcl hF x30 x31 x40 x41;obtain ⟨⟨v5,t5,e5⟩,h5⟩:∃ r,mulA (n:Int) (n:Int) (rdP (n:Int) tp) (rdP (n:Int) tq)=r:=⟨_,rfl⟩;have H5:=qh h5;clear h5;obtain ⟨x00,x01⟩:=HP.c (i:=0) rfl;obtain ⟨x10,x11⟩:=HP.c (i:=1) rfl;have hcl:=qh (poly_MulV H5.out (hT.ext HP.e) (HP.t (i:=0) rfl) (HP.t (i:=1) rfl) (small570 HS1.out (by omega)) (small570 HS2.out (by omega)) GS.mul)
     go_wp2_with fail
     refine hcl.out.mono ?_;rintro e w30 ⟨a30,n30,c30,rfl,hF,hO⟩;have hY:=Arr.new w30 25 (polyL 0 none 0 0);clear hcl x00 x01 x10 x11
     go_upto_region 12 with (refine wl_stPo rfl rfl rfl rfl hY rfl ?_; intro w30' hB hg)
     replace HP:=HP.new hF hO hB hg;clear hY hB hg hF hO;by_cases z5:e5=0
     case' pos =>
      subst z5;obtain ⟨rfl,ts,tt,GM⟩:=gapM Hp.out Hq.out HS1.out HS2.out pB LB.out GS.ru H5.out;obtain ⟨x50,x51⟩:=HP.c (i:=5) rfl;have hcl:=qh (group_ApplyV GM.s (hT.ext HP.e) (HP.t (i:=5) rfl) (hB.ext HP.e) pB GM.rm GM.xm GM.ss)
      go_wp2_with fail
      refine hcl.out.mono ?_;rintro e w31 ⟨a31,n31,c31,rfl,hF,hO⟩;have hY:=Arr.new w31 25 (polyL 0 none 0 0);clear hcl x50 x51
      go_upto_region 14 with (refine wl_stPo rfl rfl rfl rfl hY rfl ?_; intro w31' hB hg)
      replace HP:=HP.new hF hO hB hg;clear hY hB hg hF hO;obtain ⟨x10,x11⟩:=HP.c (i:=1) rfl;have hcl:=qh (group_ApplyV GM.t (hT.ext HP.e) (HP.t (i:=1) rfl) (hB.ext HP.e) pB Hq.out (small570 HS2.out (by omega)) GM.st)
      go_wp2_with fail
      refine hcl.out.mono ?_;rintro e w32 ⟨a32,n32,c32,rfl,hF,hO⟩;have hY:=Arr.new w32 25 (polyL 0 none 0 0);clear hcl x10 x11
      go_upto_region 15 with (refine wl_stPo rfl rfl rfl rfl hY rfl ?_; intro w32' hB hg)
      replace HP:=HP.new hF hO hB hg;clear hY hB hg hF hO;obtain ⟨x20,x21⟩:=HP.c (i:=2) rfl;obtain ⟨x70,x71⟩:=HP.c (i:=7) rfl;have hcl:=qh (poly_MulV GM.r (hT.ext HP.e) (HP.t (i:=2) rfl) (HP.t (i:=7) rfl) GS.xu GM.xt GM.mo)
      go_wp2_with fail
      refine hcl.out.mono ?_;rintro e w33 ⟨a33,n33,c33,rfl,hF,hO⟩;have hY:=Arr.new w33 25 (polyL 0 none 0 0);clear hcl x20 x21 x70 x71
      go_upto_region 16 with (refine wl_stPo rfl rfl rfl rfl hY rfl ?_; intro w33' hB hg)
      replace HP:=HP.new hF hO hB hg;clear hY hB hg hF hO;obtain ⟨x60,x61⟩:=HP.c (i:=6) rfl;obtain ⟨x80,x81⟩:=HP.c (i:=8) rfl;have hcl:=qh (keep_Polys (va:=(n:Int)) (vb:=(n:Int)) (HP.t (i:=6) rfl) (HP.t (i:=8) rfl));rw [show decide ((n:Int)=(n:Int)∧ts=ts)=true by simp] at hcl
      go_wp2_with fail
      refine hcl.out.mono ?_;rintro e w34 ⟨rfl,hF⟩;replace HP:=HP.ext hF;clear hcl hF x60 x61 x80 x81;clear GM
      go_upto_region 18 with (fail)
      generalize w34=WB at *
     case' neg =>
      have q5:(e5 == 0)=false:=by simpa using z5
      clear z5
      go_upto_region 18 with (fail)
      clear q5;generalize w30'=WB at *
     all_goals
      clear H5;have HF:=HP.e
      obtain ⟨MK,hMK⟩:∃ F:World→World,∀ W,(Instr.makeSlice 26 (.int .i64 (n:Int)) (.int .i64 (n:Int))).run Tryz.prog W = .ok (.slice (some ⟨W.heap.size,0,none⟩) n n) (F W)∧Own (F W) W.heap.size 9 (some ⟨W.heap.size,0,none⟩) n n (List.replicate n (.string ⟨#[]⟩))∧Ext W (F W) :=
       ⟨fun W=>(run_mk (P:=Tryz.prog) (w:=W) (n:=n) Tryz.underlying26 info_str rfl (by omega) (by unfold maxLen; omega)).choose,fun W=>(run_mk (P:=Tryz.prog) (w:=W) (n:=n) Tryz.underlying26 info_str rfl (by omega) (by unfold maxLen; omega)).choose_spec⟩
      have hrun:=fun W=>(hMK W).1;have HMK:=qh (fun W=>(hMK W).2);obtain ⟨us0,hSu,hUL,hUQ⟩:=hu;have HUL:=qh hUL;have HUQ:=qh hUQ;clear hMK hUL hUQ
      go_region
      all_goals
       obtain ⟨hO1,hX1⟩:=HMK.out WB.drew;obtain ⟨hO2,hX2⟩:=HMK.out (MK WB.drew);have hb:WB.drew.heap.size<(MK WB.drew).heap.size:=(hO1.lt rfl).2;have hz1:WB.drew.heap.size=WB.heap.size:=by simp
       rw [hz1] at hb hO1;have hEN:Ext WB (MK (MK WB.drew)):=((Ext.refl WB).drew.trans hX1).trans hX2;have hOa:=hO1.ext hX2;have hOb:=hO2.mono (Nat.le_of_lt hb);clear hrun HMK hO1 hO2 hX1 hX2 hz1;generalize (MK WB.drew).heap.size=GB at *
       generalize MK (MK WB.drew)=WN at *
       obtain ⟨GA,hGA⟩:∃ g,g=WB.heap.size:=⟨_,rfl⟩;have h1a:WB.heap.size≤GA:=by omega
       have h1c:WB.heap.size≤GB:=by omega
       have hnab:GA≠GB:=by omega
       have hOa:Own WN WB.heap.size 9 (some ⟨GA,0,none⟩) n n (List.replicate n (.string ⟨#[]⟩)):=by rw [hGA]; exact hOa
       rw [←hGA];clear hb
      obtain ⟨G1,G2,e1,e2⟩:∃ G1 G2:Nat,G1=GA∧G2=GB:=⟨_,_,rfl,rfl⟩;subst e1 e2;have hAw:=hOa;have hMw:=hOb;have h1b:=h1a;have h2b:=h1c;have hne:=hnab;rotate_left;obtain ⟨G1,G2,e1,e2⟩:∃ G1 G2:Nat,G1=GB∧G2=GA:=⟨_,_,rfl,rfl⟩;subst e1 e2;have hAw:=hOb;have hMw:=hOa;have h1b:=h1c;have h2b:=h1a;have hne:=hnab.symm
      all_goals
       clear hOa hOb h1a h1c hnab hGA;have hA0:Own WN WB.heap.size 9 (some ⟨G1,0,none⟩) n n ((mvS us (idn n) n 0).map strV):=by
        show Own _ _ _ _ _ _ ((List.replicate n []).map strV);rw [List.map_replicate];exact hAw
       have hM0:Own WN WB.heap.size 9 (some ⟨G2,0,none⟩) n n ((mvS us B n 0).map strV):=by
        show Own _ _ _ _ _ _ ((List.replicate n []).map strV);rw [List.map_replicate];exact hMw
       go_wp2
       go_loopw [30] (fun iv wr=>∃ k:Nat,iv = .int .i64 k∧k≤n∧Ext WB wr∧Own wr WB.heap.size 9 (some ⟨G1,0,none⟩) n n ((mvS us (idn n) n k).map strV)∧Own wr WB.heap.size 9 (some ⟨G2,0,none⟩) n n ((mvS us B n k).map strV)) (fun iv _=>n-(intOf iv).toNat)
       case atStart=>exact ⟨0,rfl,Nat.zero_le _,hEN,hA0,hM0⟩
       case round =>
        clear hA0 hM0 hEN hAw hMw;obtain ⟨k,rfl,hk,hE,hA1,hM1⟩:=hrel;by_cases hlt:k<n
        · obtain ⟨bB,oB,hBq,hcB⟩:=hB.at hlt;subst hBq;have gB:=hcB k hlt;have hik:=perm_at pB (i:=k) (by have:=LB.out; omega);rw [LB.out] at hik;have HE1:Hid (mvS us B n (k+1)=(mvS us B n k).set (B.getD k 0).toNat (atC us k)):=qh rfl
          have HE2:Hid (mvS us (idn n) n (k+1)=(mvS us (idn n) n k).set k (atC us k)):=qh (by
           show (mvS us (idn n) n k).set ((idn n).getD k 0).toNat (atC us k)=_;rw [idn_getD hlt]
           rfl)
          generalize B.getD k 0=yv at gB hik HE1;obtain ⟨yv0,yv1⟩:=hik;have hg1:=Own.cellAt hA1 (j:=k) hlt;have hg2:=Own.frozenAt hA1 k;clear hcB
          go_upto_region 23 with (fail)
          have hA2:=Own.stored hA1 k (.string ⟨#[48]⟩);have hM2:=Own.kept hM1 (grown_setCell wr G1 k (.string ⟨#[48]⟩)) (Or.inr (fun h=>hne (by simpa [blk] using h.symm)));have hE2:=Ext.setCell hE (p:=⟨G1,k,none⟩) h1b (.string ⟨#[48]⟩);generalize wr.setCell ⟨G1,k,none⟩ (.string ⟨#[48]⟩)=w2 at *
          clear hA1 hM1 hg1 hg2 hE;by_cases hzk:k<nz
          · obtain ⟨bz,oz,hzq,hcz⟩:=hSu.rd (by omega);subst hzq;obtain ⟨s,hcs,hst⟩:=HUQ.out k hzk;have c0:=hcz k hzk;rw [hcs] at c0;replace c0:=(HF.trans hE2).cell c0;have hlen6:s.size≤570:=by
             have h1:=HSH.out;rw [List.all_eq_true] at h1;have h2:=h1 (us.getD k []) (by rw [List.getD_eq_getElem?_getD,List.getElem?_eq_getElem (by have:=HUL.out; omega)]; exact List.getElem_mem _);have h3:(us.getD k []).length≤6:=by simpa using h2
             rw [←hst,strL_len] at h3;omega
            have hval:=qh (rat_Valid (s:=s) (w:=w2) (hT.ext (HF.trans hE2)) hlen6);obtain ⟨vb,hvb⟩:∃ b,(readQ (strL s)).isSome=b:=⟨_,rfl⟩;rw [hvb] at hval;have HVB:=qh hvb;have HST:=qh hst;clear hvb hst hcs hcz hlen6
            go_wp2_with fail
            refine hval.out.mono ?_;rintro e w3 ⟨rfl,hE3⟩;have hEE:=hE2.trans hE3;have hA3:=hA2.ext hE3;have hM3:=hM2.ext hE3;replace c0:=hE3.cell c0;clear hval hE2 hA2 hM2 hE3;cases vb with
            | false =>
             have hAE:Own w3 WB.heap.size 9 (some ⟨G1,0,none⟩) n n ((mvS us (idn n) n (k+1)).map strV):=by
              rw [HE2.out,List.map_set,show strV (atC us k) = .string ⟨#[48]⟩ by unfold atC; rw [if_neg (fun h=>by rw [←HST.out,HVB.out] at h; exact Bool.noConfusion h.2)]; rfl];exact hA3
             have hME:=hM3
             go_upto_region 25 with (fail)
             have hg1:=Own.cellAt hAE (j:=k) hlt;have hgk:((mvS us (idn n) n (k+1)).map strV).getD k undef=strV (atC us k):=by
              rw [HE2.out,List.map_set,List.getD_eq_getElem?_getD,List.getElem?_set_self (by rw [List.length_map,mvS_len]; exact hlt)];rfl
             rw [hgk] at hg1;have hg2:=Own.cellAt hME (j:=yv.toNat) (by omega);have hg3:=Own.frozenAt hME yv.toNat
             have hgb:=(HF.trans hEE).cell gB;obtain ⟨SB,hSV⟩:∃ v:ByteArray,strV (atC us k) = .string v:=⟨_,rfl⟩;rw [hSV] at hg1;have HSV:=qh hSV;clear hSV hgk
             go_region
             all_goals
              go_wp2;go_roundw
              case rel =>
               refine ⟨k+1,by go_num,by omega,Ext.setCell (Ext.drew hEE) h2b _,Own.kept (Own.drew hAE) (grown_setCell _ G2 yv.toNat _) (Or.inr (fun h=>hne (by simpa [blk] using h))), ?_⟩;rw [HE1.out,List.map_set,HSV.out];exact Own.stored (Own.drew hME) yv.toNat (.string SB)
              case measure=>simp [intOf]; omega
            | true =>
             have hg1:=Own.cellAt hA3 (j:=k) hlt;have hg2:=Own.frozenAt hA3 k
             go_upto_region 25 with (fail)
             have hA4:=Own.stored hA3 k (.string s);have hME:=Own.kept hM3 (grown_setCell w3 G1 k (.string s)) (Or.inr (fun h=>hne (by simpa [blk] using h.symm)));have hE4:=Ext.setCell hEE (p:=⟨G1,k,none⟩) h1b (.string s);generalize w3.setCell ⟨G1,k,none⟩ (.string s)=w4 at *
             rw [List.set_set] at hA4;have hAE:Own w4 WB.heap.size 9 (some ⟨G1,0,none⟩) n n ((mvS us (idn n) n (k+1)).map strV):=by
              rw [HE2.out,List.map_set,show strV (atC us k) = .string s by unfold atC; rw [if_pos ⟨by have:=HUL.out; omega,by rw [←HST.out]; exact HVB.out⟩,←HST.out,strV_strL]];exact hA4
             clear hEE hA3 hM3 hg1 hg2 hA4 c0;have hEE:=hE4;have hg1:=Own.cellAt hAE (j:=k) hlt;have hgk:((mvS us (idn n) n (k+1)).map strV).getD k undef=strV (atC us k):=by
              rw [HE2.out,List.map_set,List.getD_eq_getElem?_getD,List.getElem?_set_self (by rw [List.length_map,mvS_len]; exact hlt)];rfl
             rw [hgk] at hg1;have hg2:=Own.cellAt hME (j:=yv.toNat) (by omega);have hg3:=Own.frozenAt hME yv.toNat
             have hgb:=(HF.trans hEE).cell gB;obtain ⟨SB,hSV⟩:∃ v:ByteArray,strV (atC us k) = .string v:=⟨_,rfl⟩;rw [hSV] at hg1;have HSV:=qh hSV;clear hSV hgk
             go_region
             all_goals
              go_wp2;go_roundw
              case rel =>
               refine ⟨k+1,by go_num,by omega,Ext.setCell (Ext.drew hEE) h2b _,Own.kept (Own.drew hAE) (grown_setCell _ G2 yv.toNat _) (Or.inr (fun h=>hne (by simpa [blk] using h))), ?_⟩;rw [HE1.out,List.map_set,HSV.out];exact Own.stored (Own.drew hME) yv.toNat (.string SB)
              case measure=>simp [intOf]; omega
          · have hAE:Own w2 WB.heap.size 9 (some ⟨G1,0,none⟩) n n ((mvS us (idn n) n (k+1)).map strV):=by
             rw [HE2.out,List.map_set,show strV (atC us k) = .string ⟨#[48]⟩ by unfold atC; rw [if_neg (fun h=>by have:=HUL.out; omega)]; rfl];exact hA2
            have hME:=hM2;have hEE:=hE2;have hzn:¬ ((k:Int)<(nz:Int)):=by omega
            go_upto_region 25 with (fail)
            clear hzn;have hg1:=Own.cellAt hAE (j:=k) hlt;have hgk:((mvS us (idn n) n (k+1)).map strV).getD k undef=strV (atC us k):=by
             rw [HE2.out,List.map_set,List.getD_eq_getElem?_getD,List.getElem?_set_self (by rw [List.length_map,mvS_len]; exact hlt)];rfl
            rw [hgk] at hg1;have hg2:=Own.cellAt hME (j:=yv.toNat) (by omega);have hg3:=Own.frozenAt hME yv.toNat
            have hgb:=(HF.trans hEE).cell gB;obtain ⟨SB,hSV⟩:∃ v:ByteArray,strV (atC us k) = .string v:=⟨_,rfl⟩;rw [hSV] at hg1;have HSV:=qh hSV;clear hSV hgk
            go_region
            all_goals
             go_wp2;go_roundw
             case rel =>
              refine ⟨k+1,by go_num,by omega,Ext.setCell (Ext.drew hEE) h2b _,Own.kept (Own.drew hAE) (grown_setCell _ G2 yv.toNat _) (Or.inr (fun h=>hne (by simpa [blk] using h))), ?_⟩;rw [HE1.out,List.map_set,HSV.out];exact Own.stored (Own.drew hME) yv.toNat (.string SB)
             case measure=>simp [intOf]; omega
        · have hkn:n=k:=by omega
          subst hkn;have hAt:=strSl_own hA1 (mvS_len _ _ _ _);have hMv:=strSl_own hM1 (mvS_len _ _ _ _);replace HP:=HP.ext hE;clear hA1 hM1 HF hE;obtain ⟨x00,x01⟩:=HP.c (i:=0) rfl;have hcl:=qh (poly_EvalV Hp.out (mvS_rd (us:=us) (idn_perm hn) (idn_len n)) rfl (ev_small Hp.out HS1.out (pm_Q6 (idn_perm hn) (idn_len n) HSH.out) (by unfold pmL; rw [List.length_map,mvS_len]; exact hn)) (hT.ext HP.e) (HP.t (i:=0) rfl) hAt (small570 HS1.out (by omega)) (mvS_570 (idn_perm hn) (idn_len n) HSH.out) (by omega));obtain ⟨S,hS1⟩:∃ S:ByteArray,⟨(txt (Pl.evq (pmL us (idn n) n) lp)).toArray⟩=S:=⟨_,rfl⟩
          have HEV:=qh (gap_ev (us:=us) (Pv.of Hp.out) pB LB.out hn);have HS0:=qh hS1;rw [hS1] at hcl;clear hS1
          go_wp2_with fail
          refine hcl.out.mono ?_;rintro e w80 ⟨rfl,hF⟩;replace HP:=HP.ext hF;replace hMv:=hMv.ext hF;clear hcl hF hAt x00 x01;obtain ⟨x20,x21⟩:=HP.c (i:=2) rfl;have hcl:=qh (poly_EvalV GS.ru (mvS_rd (us:=us) pB LB.out) rfl (ev_small GS.ru GS.sm (pm_Q6 pB LB.out HSH.out) (by unfold pmL; rw [List.length_map,mvS_len]; exact hn)) (hT.ext HP.e) (HP.t (i:=2) rfl) hMv GS.xu (mvS_570 pB LB.out HSH.out) (by omega));rw [HEV.out,HS0.out] at hcl;have qS:(S == S)=true:=by show (S.data == S.data)=true; simp
          go_wp2_with fail
          refine hcl.out.mono ?_;rintro e w81 ⟨rfl,hF⟩;replace HP:=HP.ext hF;clear hcl hF hMv x20 x21
          go_wp2_with fail
          refine law_awake18.mono ?_;rintro e w35 ⟨rfl,hF⟩;go_wp2;go_ret;exact ⟨rfl,hEB.trans (HP.e.trans hF)⟩
end Go.Proofs.YtlpgonpfjbhmfaaGreatDoor
