/- Part Rin34. -/
import Derived.Test.YtlpgonpfjbhmfaaGreatDoorRin24
import Derived.Test.YtlpgonpfjbhmfaaGreatDoorRin33
import Derived.Test.YtlpgonpfjbhmfaaGreatDoorRin30
set_option maxRecDepth 100000
set_option maxHeartbeats 100000000
namespace Go.Proofs.YtlpgonpfjbhmfaaGreatDoor
open Go Go.RowKit
theorem take_stepX {xs ys:List Tx} {k:Nat} (hp:xs.take k=ys.take k) (h1:k<xs.length) (h2:k<ys.length) (he:xs.getD k tm0=ys.getD k tm0):xs.take (k+1)=ys.take (k+1):=by
 simp only [List.getD_eq_getElem?_getD,h1,h2,List.getElem?_eq_getElem,Option.getD_some] at he;rw [List.take_succ_eq_append_getElem h1,List.take_succ_eq_append_getElem h2,hp,he]
theorem keep_Polys {va vb:Int} {a b:Option Addr} {n c m d:Nat} {xs ys:List Tx} {w:World} (hx:TmSl w a n c xs) (hy:TmSl w b m d ys) :
 Calls Tryz.prog 15 #[.agg #[.int .i64 va, .slice a n c], .agg #[.int .i64 vb, .slice b m d]] w fun e w'=>e = .returned (.bool (decide (va=vb∧xs=ys)))∧Ext w w':=by
 obtain ⟨r,hr⟩:∃ r,decide (va=vb∧xs=ys)=r:=⟨_,rfl⟩;rw [hr];have HR:=qh hr;clear hr;have hlx:=hx.len;have hly:=hy.len;obtain ⟨rx,hX,_,hqx⟩:=hx;obtain ⟨ry,hY,_,hqy⟩:=hy;have HQX:=qh hqx;have HQY:=qh hqy;have HLX:=qh hlx;have HLY:=qh hly;clear hqx hqy hlx hly;have hmn:=hX.le;have hmm:=hY.le
 go_enter Tryz.func15,Tryz.ntmps15
 go_upto_region 1 with (fail)
 refine box2 ?_;intro w0 hE0 hB0 hB1 hz0;have p00:=hB0.c 0 rfl;have p01:=hB0.c 1 rfl;have p10:=hB1.c 0 rfl;have p11:=hB1.c 1 rfl;clear hB0 hB1 hz0;by_cases hv:va=vb
 · subst hv;have hvv:(va != va)=false:=by simp
   by_cases hl:n=m
   · have hne:((n:Int) != (m:Int))=false:=by simp [hl]
     have HL:=qh hl;clear hl;go_wp2
     go_loopw [5] (fun i wr=>∃ k:Nat,k≤n∧i = .int .i64 k∧Ext w0 wr∧Hid (xs.take k=ys.take k)) (fun i _=>n-(intOf i).toNat)
     case atStart=>exact ⟨0,Nat.zero_le _,rfl,Ext.refl _,qh rfl⟩
     case round =>
      obtain ⟨k,hk,rfl,hEr,HP⟩:=hrel;have hE:=hE0.trans hEr;have q01:=hEr.cell p01;have q11:=hEr.cell p11;by_cases hlt:k<n
      · have hlt2:k<m:=by have:=HL.out; omega
        obtain ⟨b1,o1,rfl,hc1⟩:=(hX.ext hE).rd (by omega);obtain ⟨b2,o2,rfl,hc2⟩:=(hY.ext hE).rd (by omega);obtain ⟨s1,a1,n1,c1,hr1,hs1,hx1⟩:=HQX.out k hlt;obtain ⟨s2,a2,n2,c2,hr2,hs2,hx2⟩:=HQY.out k hlt2;have x0:=hc1 k hlt 0 (by omega);have x1:=hc1 k hlt 1 (by omega);have y0:=hc2 k hlt2 0 (by omega);have y1:=hc2 k hlt2 1 (by omega);rw [hr1] at x0 x1;rw [hr2] at y0 y1;simp only [List.getD_cons_zero,List.getD_cons_succ,Nat.add_zero] at x0 x1 y0 y1;have hIN:=fun (wx:World) (hC:Ext wr wx)=>qh (keep_Ints ((hx1.ext hE).ext hC) ((hx2.ext hE).ext hC))
        have HST:Hid ((xs.getD k tm0).1=strL s1∧(ys.getD k tm0).1=strL s2):=qh ⟨hs1.symm,hs2.symm⟩
        have HNX:Hid (((xs.getD k tm0).1≠(ys.getD k tm0).1∨(xs.getD k tm0).2≠(ys.getD k tm0).2)→r=false):=qh (fun h=>by
         rw [←HR.out];apply decide_eq_false;rintro ⟨_,rfl⟩
         rcases h with h|h <;> exact h rfl)
        clear hc1 hc2 hr1 hr2 hs1 hs2 hx1 hx2;generalize hte:(xs.getD k tm0).2=e1 at *
        generalize htf:(ys.getD k tm0).2=e2 at *
        have HTE:=qh (And.intro hte htf);clear hte htf;go_wp2;by_cases hse:s1.toList=s2.toList
        · have hstb:(s1.toList != s2.toList)=false:=by simp [hse]
          have HSE:Hid ((xs.getD k tm0).1=(ys.getD k tm0).1):=qh (by
           rw [HST.out.1,HST.out.2];unfold strL;rw [ByteArray.toList_eq,ByteArray.toList_eq] at hse
           exact hse)
          obtain ⟨bq,hbq⟩:∃ bq,decide (e1=e2)=bq:=⟨_,rfl⟩;have HIN:=fun (wx:World) (hC:Ext wr wx)=>qh (hIN wx hC).out;rw [hbq] at HIN;have HBQ:=qh hbq;clear hIN hbq;have HF1:=fun (wx:World) (hC:Ext wr wx)=>qh (And.intro (hC.cell q01) (And.intro (hC.cell q11) (And.intro (hC.cell x0) (And.intro (hC.cell x1) (And.intro (hC.cell y0) (hC.cell y1))))))
          refine wp_region_typed (by kernel_rfl) (fun wx=>Ext wr wx)
           [he (.pointer (some ⟨w.heap.size,1,none⟩)),
 he (.slice (some ⟨b1,o1,none⟩) n c),
 he (.int .i64 (k:Int)),
 he (.pointer (some ⟨b1,(o1+k*2),none⟩)),
 he (.pointer (some ⟨b1,(o1+k*2),none⟩)),
 he (.string s1),
 he (.pointer (some ⟨(w.heap.size+1),1,none⟩)),
 he (.slice (some ⟨b2,o2,none⟩) m d),
 he (.int .i64 (k:Int)),
 he (.pointer (some ⟨b2,(o2+k*2),none⟩)),
 he (.pointer (some ⟨b2,(o2+k*2),none⟩)),
 he (.string s2),
 he (.bool false),
 he (.bool false),
 he (.pointer (some ⟨w.heap.size,1,none⟩)),
 he (.slice (some ⟨b1,o1,none⟩) n c),
 he (.int .i64 (k:Int)),
 he (.pointer (some ⟨b1,(o1+k*2),none⟩)),
 he (.pointer (some ⟨b1,((o1+k*2)+1),none⟩)),
 he (.slice a1 n1 c1),
 he (.pointer (some ⟨(w.heap.size+1),1,none⟩)),
 he (.slice (some ⟨b2,o2,none⟩) m d),
 he (.int .i64 (k:Int)),
 he (.pointer (some ⟨b2,(o2+k*2),none⟩)),
 he (.pointer (some ⟨b2,((o2+k*2)+1),none⟩)),
 he (.slice a2 n2 c2),
 hp (fun v wx=>v = .bool bq),
 he (.bool (!bq)),
 he (.bool (!bq))]
           (by kernel_rfl) (fun _ _ e h=>h.trans e) ((Ext.refl wr).drew) ⟨trivial,trivial,trivial,trivial,trivial,trivial,trivial,trivial,trivial,trivial,trivial,trivial,trivial,trivial,trivial,trivial,trivial,trivial,trivial,trivial,trivial,trivial,trivial,trivial,trivial,trivial,fun v w w' e h=>h,trivial,trivial,trivial⟩ ⟨?o0, ?o1, ?o2, ?o3, ?o4, ?o5, ?o6, ?o7, ?o8, ?o9, ?o10, ?o11, ?o12, ?o13, ?o14, ?o15, ?o16, ?o17, ?o18, ?o19, ?o20, ?o21, ?o22, ?o23, ?o24, ?o25, ?o26, ?o27, ?o28,trivial⟩ ?fin
          case o0=>exact ofa (d:=1) rfl rfl (fun _ _=>id) (by kernel_rfl) rfl
          case o1=>exact ol rfl rfl (fun _ _=>id) (by kernel_rfl) (by assumption)
          case o2=>exact omv rfl rfl (fun _ _=>id)
          case o3 =>
           refine obl_pq rfl fun ρ wx hC hcst h => ?_;have e0:ρ (.tmp 28)=(.slice (some ⟨b1,o1,none⟩) n c):=h.1;have e1:ρ (.tmp 29)=(.int .i64 (k:Int)):=h.2.1;obtain ⟨k0,k1,k2,k3,k4,k5⟩:=(HF1 wx hC).out;go_simp
           try (first | (intros; omega) | exact IntWalk.i64_in _ (by omega))
          case o4=>exact ofa (d:=0) rfl rfl (fun _ _=>id) (by kernel_rfl) rfl
          case o5=>exact ol rfl rfl (fun _ _=>id) (by kernel_rfl) (by assumption)
          case o6=>exact ofa (d:=1) rfl rfl (fun _ _=>id) (by kernel_rfl) rfl
          case o7=>exact ol rfl rfl (fun _ _=>id) (by kernel_rfl) (by assumption)
          case o8=>exact omv rfl rfl (fun _ _=>id)
          case o9 =>
           refine obl_pq rfl fun ρ wx hC hcst h => ?_;have e0:ρ (.tmp 34)=(.slice (some ⟨b2,o2,none⟩) m d):=h.1;have e1:ρ (.tmp 35)=(.int .i64 (k:Int)):=h.2.1;obtain ⟨k0,k1,k2,k3,k4,k5⟩:=(HF1 wx hC).out;go_simp
           try (first | (intros; omega) | exact IntWalk.i64_in _ (by omega))
          case o10=>exact ofa (d:=0) rfl rfl (fun _ _=>id) (by kernel_rfl) rfl
          case o11=>exact ol rfl rfl (fun _ _=>id) (by kernel_rfl) (by assumption)
          case o12 =>
           refine obl_pq rfl fun ρ wx hC hcst h => ?_;have e0:ρ (.tmp 32)=(.string s1):=h.1;have e1:ρ (.tmp 38)=(.string s2):=h.2.1;obtain ⟨k0,k1,k2,k3,k4,k5⟩:=(HF1 wx hC).out;go_simp
           try (first | (intros; omega) | exact IntWalk.i64_in _ (by omega))
          case o13=>exact omv rfl rfl (fun _ _=>id)
          case o14=>exact ofa (d:=1) rfl rfl (fun _ _=>id) (by kernel_rfl) rfl
          case o15=>exact ol rfl rfl (fun _ _=>id) (by kernel_rfl) (by assumption)
          case o16=>exact omv rfl rfl (fun _ _=>id)
          case o17 =>
           refine obl_pq rfl fun ρ wx hC hcst h => ?_;have e0:ρ (.tmp 42)=(.slice (some ⟨b1,o1,none⟩) n c):=h.1;have e1:ρ (.tmp 43)=(.int .i64 (k:Int)):=h.2.1;obtain ⟨k0,k1,k2,k3,k4,k5⟩:=(HF1 wx hC).out;go_simp
           try (first | (intros; omega) | exact IntWalk.i64_in _ (by omega))
          case o18=>exact ofa (d:=1) rfl rfl (fun _ _=>id) (by kernel_rfl) rfl
          case o19=>exact ol rfl rfl (fun _ _=>id) (by kernel_rfl) (by assumption)
          case o20=>exact ofa (d:=1) rfl rfl (fun _ _=>id) (by kernel_rfl) rfl
          case o21=>exact ol rfl rfl (fun _ _=>id) (by kernel_rfl) (by assumption)
          case o22=>exact omv rfl rfl (fun _ _=>id)
          case o23 =>
           refine obl_pq rfl fun ρ wx hC hcst h => ?_;have e0:ρ (.tmp 48)=(.slice (some ⟨b2,o2,none⟩) m d):=h.1;have e1:ρ (.tmp 49)=(.int .i64 (k:Int)):=h.2.1;obtain ⟨k0,k1,k2,k3,k4,k5⟩:=(HF1 wx hC).out;go_simp
           try (first | (intros; omega) | exact IntWalk.i64_in _ (by omega))
          case o24=>exact ofa (d:=1) rfl rfl (fun _ _=>id) (by kernel_rfl) rfl
          case o25=>exact ol rfl rfl (fun _ _=>id) (by kernel_rfl) (by assumption)
          case o26 =>
           refine obl_cq rfl fun ρ wx hC hcst hfn h => ?_;have e1:ρ (.tmp 46)=(.slice a1 n1 c1):=h.2.1;have e2:ρ (.tmp 52)=(.slice a2 n2 c2):=h.2.2.1;obtain ⟨k0,k1,k2,k3,k4,k5⟩:=(HF1 wx hC).out;refine ⟨34,#[.slice a1 n1 c1, .slice a2 n2 c2],by go_simp,((HIN wx hC).out).mono ?_⟩;rintro e w' ⟨rfl,hE'⟩;exact ⟨_,rfl,hE'.ext,rfl⟩
          case o27 =>
           refine obl_pq rfl fun ρ wx hC hcst h => ?_;obtain ⟨v0,e0,rfl⟩:=h.1;obtain ⟨k0,k1,k2,k3,k4,k5⟩:=(HF1 wx hC).out;go_simp
          case o28 =>
           refine obl_pq rfl fun ρ wx hC hcst h => ?_;have e0:ρ (.tmp 40)=(.bool false):=h.1;have e2:ρ (.tmp 54)=(.bool (!bq)):=h.2.2.1;obtain ⟨k0,k1,k2,k3,k4,k5⟩:=(HF1 wx hC).out;go_simp
          case fin =>
           intro wx hC;rintro _ rfl;change wpList _ _ _ _ _ _;simp only [List.length_cons,List.length_nil,List.drop_succ_cons,List.drop_zero,Act.put,List.setIfInBounds_toArray,List.set_cons_succ,List.set_cons_zero];cases bq with
           | true =>
            have HEE:=qh (of_decide_eq_true HBQ.out);go_wp2;go_roundw
            case rel=>exact ⟨k+1,by omega,by go_num,hEr.trans hC,qh (take_stepX HP.out (by have:=HLX.out; omega) (by have:=HLY.out; omega) (Prod.ext HSE.out (by rw [HTE.out.1,HTE.out.2,HEE.out])))⟩
            case measure=>simp [intOf]; omega
           | false =>
            have HNE:Hid (r=false):=qh (HNX.out (Or.inr (of_decide_eq_false HBQ.out)));go_wp2;go_ret;exact ⟨by rw [HNE.out]; rfl,hE.trans hC⟩
        · have hstb:(s1.toList != s2.toList)=true:=bne_iff_ne.2 hse
          have HNE:Hid (r=false):=qh (HNX.out (Or.inl (by
           rw [HST.out.1,HST.out.2];unfold strL;intro h;apply hse;rw [ByteArray.toList_eq,ByteArray.toList_eq]
           exact h)))
          have HF2:=fun (wx:World) (hC:Ext wr wx)=>qh (And.intro (hC.cell q01) (And.intro (hC.cell q11) (And.intro (hC.cell x0) (And.intro (hC.cell x1) (And.intro (hC.cell y0) (hC.cell y1))))))
          refine wp_region_typed (by kernel_rfl) (fun wx=>Ext wr wx)
           [he (.pointer (some ⟨w.heap.size,1,none⟩)),
 he (.slice (some ⟨b1,o1,none⟩) n c),
 he (.int .i64 (k:Int)),
 he (.pointer (some ⟨b1,(o1+k*2),none⟩)),
 he (.pointer (some ⟨b1,(o1+k*2),none⟩)),
 he (.string s1),
 he (.pointer (some ⟨(w.heap.size+1),1,none⟩)),
 he (.slice (some ⟨b2,o2,none⟩) m d),
 he (.int .i64 (k:Int)),
 he (.pointer (some ⟨b2,(o2+k*2),none⟩)),
 he (.pointer (some ⟨b2,(o2+k*2),none⟩)),
 he (.string s2),
 he (.bool true),
 he (.bool true),
 he undef,
 he undef,
 he undef,
 he undef,
 he undef,
 he undef,
 he undef,
 he undef,
 he undef,
 he undef,
 he undef,
 he undef,
 he undef,
 he undef,
 he (.bool true)]
           (by kernel_rfl) (fun _ _ e h=>h.trans e) ((Ext.refl wr).drew) ⟨trivial,trivial,trivial,trivial,trivial,trivial,trivial,trivial,trivial,trivial,trivial,trivial,trivial,trivial,trivial,trivial,trivial,trivial,trivial,trivial,trivial,trivial,trivial,trivial,trivial,trivial,trivial,trivial,trivial,trivial⟩ ⟨?o0, ?o1, ?o2, ?o3, ?o4, ?o5, ?o6, ?o7, ?o8, ?o9, ?o10, ?o11, ?o12, ?o13, ?o14, ?o15, ?o16, ?o17, ?o18, ?o19, ?o20, ?o21, ?o22, ?o23, ?o24, ?o25, ?o26, ?o27, ?o28,trivial⟩ ?fin
          case o0=>exact ofa (d:=1) rfl rfl (fun _ _=>id) (by kernel_rfl) rfl
          case o1=>exact ol rfl rfl (fun _ _=>id) (by kernel_rfl) (by assumption)
          case o2=>exact omv rfl rfl (fun _ _=>id)
          case o3 =>
           refine obl_pq rfl fun ρ wx hC hcst h => ?_;have e0:ρ (.tmp 28)=(.slice (some ⟨b1,o1,none⟩) n c):=h.1;have e1:ρ (.tmp 29)=(.int .i64 (k:Int)):=h.2.1;obtain ⟨k0,k1,k2,k3,k4,k5⟩:=(HF2 wx hC).out;go_simp
           try (first | (intros; omega) | exact IntWalk.i64_in _ (by omega))
          case o4=>exact ofa (d:=0) rfl rfl (fun _ _=>id) (by kernel_rfl) rfl
          case o5=>exact ol rfl rfl (fun _ _=>id) (by kernel_rfl) (by assumption)
          case o6=>exact ofa (d:=1) rfl rfl (fun _ _=>id) (by kernel_rfl) rfl
          case o7=>exact ol rfl rfl (fun _ _=>id) (by kernel_rfl) (by assumption)
          case o8=>exact omv rfl rfl (fun _ _=>id)
          case o9 =>
           refine obl_pq rfl fun ρ wx hC hcst h => ?_;have e0:ρ (.tmp 34)=(.slice (some ⟨b2,o2,none⟩) m d):=h.1;have e1:ρ (.tmp 35)=(.int .i64 (k:Int)):=h.2.1;obtain ⟨k0,k1,k2,k3,k4,k5⟩:=(HF2 wx hC).out;go_simp
           try (first | (intros; omega) | exact IntWalk.i64_in _ (by omega))
          case o10=>exact ofa (d:=0) rfl rfl (fun _ _=>id) (by kernel_rfl) rfl
          case o11=>exact ol rfl rfl (fun _ _=>id) (by kernel_rfl) (by assumption)
          case o12 =>
           refine obl_pq rfl fun ρ wx hC hcst h => ?_;have e0:ρ (.tmp 32)=(.string s1):=h.1;have e1:ρ (.tmp 38)=(.string s2):=h.2.1;obtain ⟨k0,k1,k2,k3,k4,k5⟩:=(HF2 wx hC).out;go_simp
           try (first | (intros; omega) | exact IntWalk.i64_in _ (by omega))
          case o13=>exact omv rfl rfl (fun _ _=>id)
          case o14=>exact obl_none rfl
          case o15=>exact obl_none rfl
          case o16=>exact obl_none rfl
          case o17=>exact obl_none rfl
          case o18=>exact obl_none rfl
          case o19=>exact obl_none rfl
          case o20=>exact obl_none rfl
          case o21=>exact obl_none rfl
          case o22=>exact obl_none rfl
          case o23=>exact obl_none rfl
          case o24=>exact obl_none rfl
          case o25=>exact obl_none rfl
          case o26=>exact obl_none rfl
          case o27=>exact obl_none rfl
          case o28 =>
           refine obl_pq rfl fun ρ wx hC hcst h => ?_;have e0:ρ (.tmp 40)=(.bool true):=h.1;have e2:ρ (.tmp 54)=undef:=h.2.2.1;obtain ⟨k0,k1,k2,k3,k4,k5⟩:=(HF2 wx hC).out;go_simp
          case fin =>
           intro wx hC;change wpList _ _ _ _ _ _;simp only [List.length_cons,List.length_nil,List.drop_succ_cons,List.drop_zero,Act.put,List.setIfInBounds_toArray,List.set_cons_succ,List.set_cons_zero];go_wp2;go_ret;exact ⟨by rw [HNE.out]; rfl,hE.trans hC⟩
      · have HEQ:Hid (r=true):=qh (by
         rw [←HR.out];apply decide_eq_true;refine ⟨by trivial, ?_⟩;have h1:=HP.out;have h2:=HL.out
         rwa [List.take_of_length_le (by have:=HLX.out; omega),List.take_of_length_le (by have:=HLY.out; omega)] at h1)
        go_wp2;go_ret;exact ⟨by rw [HEQ.out]; rfl,hE⟩
   · have hne:((n:Int) != (m:Int))=true:=by simp; omega
     have HNE:Hid (r=false):=qh (by
      rw [←HR.out];apply decide_eq_false;rintro ⟨_,rfl⟩
      exact hl (HLX.out.symm.trans HLY.out))
     clear hl;go_wp2;go_ret;exact ⟨by rw [HNE.out]; rfl,hE0⟩
 · have hvv:(va != vb)=true:=by simpa using hv
   have HNE:Hid (r=false):=qh (by
    rw [←HR.out];apply decide_eq_false;rintro ⟨h,_⟩
    exact hv h)
   clear hv;go_wp2;go_ret;exact ⟨by rw [HNE.out]; rfl,hE0⟩
def smallP (ts:List Tx) (nt d:Nat):Prop:=ts.length≤nt∧∀ t∈ts,t.1.length≤d∧t.2.length≤12
instance (ts:List Tx) (nt d:Nat):Decidable (smallP ts nt d):=inferInstanceAs (Decidable (_∧_))
theorem keep_SmallPoly {va:Int} {a:Option Addr} {n c nt d:Nat} {ts:List Tx} {w:World} (hx:TmSl w a n c ts) :
 Calls Tryz.prog 8 #[.agg #[.int .i64 va, .slice a n c], .int .i64 nt, .int .i64 d] w fun e w'=>e = .returned (.bool (decide (smallP ts nt d)))∧Ext w w':=by
 have hlx:=hx.len;obtain ⟨rx,hX,_,hqx⟩:=hx;have HQX:=qh hqx;have HLX:=qh hlx;clear hqx hlx;have hmn:=hX.le
 go_enter Tryz.func8,Tryz.ntmps8
 go_upto_region 1 with (fail)
 refine box1 ?_;intro w0 hE0 hB0 hz0;have p00:=hB0.c 0 rfl;have p01:=hB0.c 1 rfl;clear hB0 hz0;by_cases hl:nt<n
 · have HNE:Hid (decide (smallP ts nt d)=false):=qh (by
    apply decide_eq_false;rintro ⟨h,_⟩;have:=HLX.out
    omega)
   have hli:(nt:Int)<(n:Int):=by omega
   clear hl;go_wp2;go_ret;exact ⟨by rw [HNE.out]; rfl,hE0⟩
 · have hli:¬ (nt:Int)<(n:Int):=by omega
   go_wp2
   go_loopw [7] (fun i wr=>∃ k:Nat,k≤n∧i = .int .i64 k∧Ext w0 wr∧Hid (∀ i,i<k→(ts.getD i tm0).1.length≤d∧(ts.getD i tm0).2.length≤12)) (fun i _=>n-(intOf i).toNat)
   case atStart=>exact ⟨0,Nat.zero_le _,rfl,Ext.refl _,qh (fun i hi=>absurd hi (by omega))⟩
   case round =>
    obtain ⟨k,hk,rfl,hEr,HP⟩:=hrel;have hE:=hE0.trans hEr;have q01:=hEr.cell p01;by_cases hlt:k<n
    · obtain ⟨b1,o1,rfl,hc1⟩:=(hX.ext hE).rd (by omega);obtain ⟨s1,a1,n1,c1,hr1,hs1,hx1⟩:=HQX.out k hlt;have x0:=hc1 k hlt 0 (by omega);have x1:=hc1 k hlt 1 (by omega);rw [hr1] at x0 x1;simp only [List.getD_cons_zero,List.getD_cons_succ,Nat.add_zero] at x0 x1;have hln:=hx1.len;have hsl:s1.size=(ts.getD k tm0).1.length:=by rw [←hs1,strL_len]
      have HST:Hid (s1.size=(ts.getD k tm0).1.length∧(ts.getD k tm0).2.length=n1):=qh ⟨hsl,hln⟩;have HMM:Hid (ts.getD k tm0∈ts):=qh (by simp [List.getD_eq_getElem?_getD,HLX.out,hlt]);clear hc1 hr1 hs1 hx1 hln hsl;by_cases h1:d<s1.size
      · have h1':(d:Int)<(s1.size:Int):=by omega
        have HNE:Hid (decide (smallP ts nt d)=false):=qh (by
         apply decide_eq_false;rintro ⟨_,h⟩;have:=h _ HMM.out;have:=HST.out
         omega)
        go_wp2;go_ret;exact ⟨by rw [HNE.out]; rfl,hE⟩
      · have h1':¬ (d:Int)<(s1.size:Int):=by omega
        by_cases h2:12<n1
        · have h2':(12:Int)<(n1:Int):=by omega
          have HNE:Hid (decide (smallP ts nt d)=false):=qh (by
           apply decide_eq_false;rintro ⟨_,h⟩;have:=h _ HMM.out;have:=HST.out
           omega)
          go_wp2;go_ret;exact ⟨by rw [HNE.out]; rfl,hE⟩
        · have h2':¬ (12:Int)<(n1:Int):=by omega
          have HP2:Hid (∀ i,i<k+1→(ts.getD i tm0).1.length≤d∧(ts.getD i tm0).2.length≤12):=qh (fun i hi=>by
           by_cases e:i=k
           · subst e;have:=HST.out;omega
           · exact HP.out i (by omega))
          go_wp2;go_roundw
          case rel=>exact ⟨k+1,by omega,by go_num,hEr,HP2⟩
          case measure=>simp [intOf]; omega
    · have HEQ:Hid (decide (smallP ts nt d)=true):=qh (by
       apply decide_eq_true;refine ⟨by have:=HLX.out; omega,fun t ht => ?_⟩;obtain ⟨i,hi,rfl⟩:=List.mem_iff_getElem.1 ht;have:=HP.out i (by have:=HLX.out; omega)
       simpa [List.getD_eq_getElem?_getD,hi] using this)
      go_wp2;go_ret;exact ⟨by rw [HEQ.out]; rfl,hE⟩
def NLL (ls:List (List Pl.Tm)) (v:Value) (w:World):Prop:=∃ a n c,v = .slice a n c∧n≤1000∧EntLL w a n c ls
theorem NLL.x (ls:List (List Pl.Tm)):StX (NLL ls):=fun _ _ _ x ⟨a,n,c,h1,h2,h3⟩=>⟨a,n,c,h1,h2,h3.ext x⟩
def RetAdd (w:World) (va vb:Int) (oa ob:Option (List Pl.Tm)) (e:Ending) (w':World):Prop :=
 (∃ la lb,oa=some la∧ob=some lb∧va=vb∧RetA3 w (resQ va (la ++ lb)) e w') ∨
 ((oa.isSome && ob.isSome)=true∧va≠vb∧RetP w 0 [] 4 e w')∨((oa.isSome && ob.isSome)=false∧RetP w 0 [] 1 e w')
theorem TmSl.nil (w:World):TmSl w none 0 0 []:=⟨[],SlK.nil w 2,rfl,fun i hi=>absurd hi (by omega)⟩
theorem txt_den {q:Rat} {k:Nat} (h:(txt q).length≤k+2) (h1:1≤k):q.den<P2 (4*k):=by
 have e:(16:Nat)^k=P2 (4*k):=by unfold P2; rw [Nat.pow_mul]
 have e2:10^k≤16^k:=Nat.pow_le_pow_left (by omega) _;rw [←e];by_cases hd:q.den=1
 · rw [hd];exact Nat.one_lt_pow (by omega) (by omega)
 · have h3:=dec_bnd q.den;have h4:(Lib.decDigits q.den).length≤k:=by
    unfold txt at h;rw [if_neg hd] at h;have h5:0<(Lib.itoa q.num).length:=by
     unfold Lib.itoa;split
     · simp
     · exact List.length_pos_iff.2 (W.dec_ne _)
    simp at h;omega
   exact Nat.lt_of_lt_of_le h3 (Nat.le_trans (Nat.pow_le_pow_right (by omega) h4) e2)
theorem degL_le {B:Int} (hB : -1≤B):∀ {l:List Pl.Tm},(∀ t∈l,t.1.sum≤B)→degL l≤B:=by
 have key:∀ (l:List Pl.Tm) (m:Int),m≤B→(∀ t∈l,t.1.sum≤B)→l.foldl (fun m t=>max m t.1.sum) m≤B:=by
  intro l
  induction l with
  | nil=>intro m h _; exact h
  | cons t r ih =>
   intro m h1 h2;rw [List.foldl_cons];have:=h2 t (by simp);exact ih _ (by omega) (fun s hs=>h2 s (by simp [hs]))
 intro l h;exact key l (-1) hB h
section
variable {va:Int} {ts:List Tx} {l:List Pl.Tm}
theorem small570 {nt d:Nat} (hs:smallP ts nt d) (hd:d≤570):∀ t∈ts,t.1.length≤570:=fun t ht=>Nat.le_trans (hs.2 t ht).1 hd
end
end Go.Proofs.YtlpgonpfjbhmfaaGreatDoor
namespace Go.Proofs.YtlpgonpfjbhmfaaGreatDoor.Pl
theorem coef_row (s:List Int) (c:Rat) (e:List Int):∀ b:List Tm,coef (b.map (fun t=>(plE s t.1,c*t.2))) e=c*lin (fun m=>if plE s m=e then 1 else 0) b
 | []=>by simp [coef,lin]
 | t :: r=>by
  rw [List.map_cons];unfold coef lin;rw [coef_row s c e r,Rat.mul_add];by_cases h:plE s t.1=e
  · simp [h]
  · simp [h]
theorem coef_prod (a b:List Tm) (e:List Int):coef (prodT a b) e=lin (fun s=>lin (fun m=>if plE s m=e then 1 else 0) b) a:=by
 induction a with
 | nil=>rfl
 | cons s r ih =>
  have h:prodT (s :: r) b=b.map (fun t=>(plE s.1 t.1,s.2*t.2)) ++ prodT r b:=by simp [prodT]
  rw [h,coef_app,coef_row,ih];rfl
theorem lin_zer {F:List Int→Rat}:∀ {l:List Tm},(∀ t∈l,F t.1=0)→lin F l=0
 | [],_=>rfl
 | t :: r,h=>by
  unfold lin;rw [h t (by simp),lin_zer (l:=r) (fun s hs=>h s (by simp [hs])),Rat.mul_zero];exact Rat.zero_add _
theorem plE_comm (a b:List Int):plE a b=plE b a:=by
 unfold plE;rw [List.zipWith_comm];congr 1;funext x y;exact Int.add_comm _ _
end Go.Proofs.YtlpgonpfjbhmfaaGreatDoor.Pl
namespace Go.Proofs.YtlpgonpfjbhmfaaGreatDoor
open Go Go.RowKit
namespace Pl
theorem plE_len {a b:List Int} (h:a.length=b.length):(plE a b).length=a.length:=by
 unfold plE;rw [List.length_zipWith,h,Nat.min_self]
theorem plE_sum:∀ {a b:List Int},a.length=b.length→(plE a b).sum=a.sum+b.sum
 | [],[],_=>rfl
 | x :: a,y :: b,h=>by
  have:=plE_sum (a:=a) (b:=b) (by simpa using h);unfold plE at this ⊢;simp only [List.zipWith_cons_cons,List.sum_cons,this];omega
theorem plE_snoc:∀ {a b:List Int} (x y:Int),a.length=b.length→plE (a ++ [x]) (b ++ [y])=plE a b ++ [x+y]
 | [],[],x,y,_=>rfl
 | u :: a,v :: b,x,y,h=>by
  have:=plE_snoc (a:=a) (b:=b) x y (by simpa using h);unfold plE at this ⊢;simp only [List.cons_append,List.zipWith_cons_cons,this]
theorem plE_rev:∀ {a b:List Int},a.length=b.length→(plE a b).reverse=plE a.reverse b.reverse
 | [],[],_=>rfl
 | x :: a,y :: b,h=>by
  have h':a.length=b.length:=by simpa using h
  have:=plE_rev (a:=a) (b:=b) h';rw [List.reverse_cons,List.reverse_cons,plE_snoc x y (by simpa using h'),←this];unfold plE;rw [List.zipWith_cons_cons,List.reverse_cons]
theorem ordR_add:∀ {a b c:List Int},a.length=b.length→b.length=c.length→ordR (plE a c) (plE b c)=ordR a b
 | [],[],[],_,_=>rfl
 | x :: a,y :: b,z :: c,h1,h2=>by
  have:=ordR_add (a:=a) (b:=b) (c:=c) (by simpa using h1) (by simpa using h2);unfold plE at this ⊢;simp only [List.zipWith_cons_cons,ordR,this];by_cases h:x=y
  · rw [if_pos h,if_pos (by omega)]
  · rw [if_neg h,if_neg (by omega)];unfold cmpI;split <;> (try split) <;> (try split) <;> omega
theorem ordE_add {a b c:List Int} (h1:a.length=b.length) (h2:b.length=c.length):ordE (plE a c) (plE b c)=ordE a b:=by
 unfold ordE;rw [plE_sum (h1.trans h2),plE_sum h2,plE_rev (h1.trans h2),plE_rev h2,ordR_add (by simpa using h1) (by simpa using h2)];by_cases h:a.sum=b.sum
 · rw [if_pos h,if_pos (by omega)]
 · rw [if_neg h,if_neg (by omega)];unfold cmpI;split <;> (try split) <;> (try split) <;> omega
theorem prod_lead {n:Nat} {t s:Tm} {r q:List Tm} (ha:Canon n (t :: r)) (hb:Canon n (s :: q)):coef (prodT (t :: r) (s :: q)) (plE t.1 s.1)=t.2*s.2:=by
 have lt:=ha.len t (by simp);have ls:=hb.len s (by simp);have key:∀ u∈t :: r,∀ m∈s :: q,(u=t∧m=s)∨0<ordE (plE t.1 s.1) (plE u.1 m.1):=by
  intro u hu m hm;have lu:=ha.len u hu;have lm:=hb.len m hm;have e1:ordE (plE t.1 s.1) (plE u.1 s.1)=ordE t.1 u.1:=ordE_add (by omega) (by omega);have e2:ordE (plE u.1 s.1) (plE u.1 m.1)=ordE s.1 m.1:=by
   rw [plE_comm u.1 s.1,plE_comm u.1 m.1];exact ordE_add (by omega) (by omega)
  rcases List.mem_cons.1 hu with rfl|hu
  · rcases List.mem_cons.1 hm with rfl|hm
    · exact Or.inl ⟨rfl,rfl⟩
    · exact Or.inr (by rw [e2]; exact (List.pairwise_cons.1 hb.desc).1 m hm)
  · have h1:0<ordE (plE t.1 s.1) (plE u.1 s.1):=by rw [e1]; exact (List.pairwise_cons.1 ha.desc).1 u hu
    rcases List.mem_cons.1 hm with rfl|hm
    · exact Or.inr h1
    · exact Or.inr (ordE_trans h1 (by rw [e2]; exact (List.pairwise_cons.1 hb.desc).1 m hm))
 have hne:∀ u∈t :: r,∀ m∈s :: q,¬ (u=t∧m=s)→plE u.1 m.1≠plE t.1 s.1:=by
  intro u hu m hm hn he;rcases key u hu m hm with h|h
  · exact hn h
  · rw [he,ordE_self] at h;omega
 have ht:t ∉ r:=fun h=>by
  have:=(List.pairwise_cons.1 ha.desc).1 t h;rw [ordE_self] at this;omega
 have hs:s ∉ q:=fun h=>by
  have:=(List.pairwise_cons.1 hb.desc).1 s h;rw [ordE_self] at this;omega
 rw [coef_prod];show t.2*lin (fun m=>if plE t.1 m=plE t.1 s.1 then 1 else 0) (s :: q)+lin (fun u=>lin (fun m=>if plE u m=plE t.1 s.1 then 1 else 0) (s :: q)) r=_;rw [lin_zer (l:=r) (fun u hu=>lin_zer fun m hm=>if_neg (hne u (by simp [hu]) m hm (fun h=>ht (h.1 ▸ hu))))];show t.2*(s.2*(if plE t.1 s.1=plE t.1 s.1 then 1 else 0)+lin (fun m=>if plE t.1 m=plE t.1 s.1 then 1 else 0) q)+0=_;rw [if_pos rfl,lin_zer (l:=q) (fun m hm=>if_neg (hne t (by simp) m (by simp [hm]) (fun h=>hs (h.2 ▸ hm))))]
 grind
end Pl
theorem le_degL {l:List Pl.Tm} {t:Pl.Tm} (h:t∈l):t.1.sum≤degL l:=by
 have key:∀ (l:List Pl.Tm) (m:Int),m≤l.foldl (fun m t=>max m t.1.sum) m∧∀ t∈l,t.1.sum≤l.foldl (fun m t=>max m t.1.sum) m:=by
  intro l
  induction l with
  | nil=>intro m; exact ⟨by simp,by simp⟩
  | cons t r ih =>
   intro m;rw [List.foldl_cons];have h1:=ih (max m t.1.sum);refine ⟨by omega,fun s hs => ?_⟩;rcases List.mem_cons.1 hs with rfl|hs
   · omega
   · exact h1.2 s hs
 exact (key l (-1)).2 t h
theorem degL_head {t:Pl.Tm} {r:List Pl.Tm} (h:Pl.Canon 6 (t :: r)) (h0 : -1≤t.1.sum):degL (t :: r)=t.1.sum :=
 Int.le_antisymm (degL_le h0 (canon_sum h)) (le_degL (by simp))
theorem degL_prod {vars:Nat} {la lb:List Pl.Tm} (ha:Pl.Canon 6 la) (hb:Pl.Canon 6 lb) (ia:∀ t∈la,InV vars t.1) (ib:∀ t∈lb,InV vars t.1) (na:la≠[]) (nb:lb≠[]):cnP (Pl.prodT la lb)≠[]∧degL (cnP (Pl.prodT la lb))=degL la+degL lb:=by
 obtain ⟨t,r,rfl⟩:=List.exists_cons_of_ne_nil na;obtain ⟨s,q,rfl⟩:=List.exists_cons_of_ne_nil nb;have lt:=ha.len t (by simp);have ls:=hb.len s (by simp);have h6:∀ u∈Pl.prodT (t :: r) (s :: q),∃ x∈t :: r,∃ y∈s :: q,u.1=Pl.plE x.1 y.1:=by
  intro u hu;obtain ⟨x,hx,h⟩:=List.mem_flatMap.1 hu;obtain ⟨y,hy,rfl⟩:=List.mem_map.1 h;exact ⟨x,hx,y,hy,rfl⟩
 have hl6:∀ u∈Pl.prodT (t :: r) (s :: q),u.1.length=6:=by
  intro u hu;obtain ⟨x,hx,y,hy,e⟩:=h6 u hu;rw [e,Pl.plE_len (by rw [ha.len x hx,hb.len y hy])];exact ha.len x hx
 obtain ⟨hc,hk⟩:=cnP_spec hl6;have h1:Pl.coef (cnP (Pl.prodT (t :: r) (s :: q))) (Pl.plE t.1 s.1)≠0:=by
  rw [hk,Pl.prod_lead ha hb];intro h;rcases Rat.mul_eq_zero.1 h with h|h
  · exact ha.nz t (by simp) h
  · exact hb.nz s (by simp) h
 obtain ⟨u,hu,he⟩:=Pl.coef_present h1;have d1:=degL_head ha (by have:=(sum_nn (ia t (by simp)).2.1).1; omega);have d2:=degL_head hb (by have:=(sum_nn (ib s (by simp)).2.1).1; omega);have hs:(Pl.plE t.1 s.1).sum=t.1.sum+s.1.sum:=Pl.plE_sum (by rw [lt,ls]);have n1:=(sum_nn (ia t (by simp)).2.1).1;have n2:=(sum_nn (ib s (by simp)).2.1).1;refine ⟨(fun h=>by rw [h] at hu; cases hu),Int.le_antisymm (degL_le (by omega) fun v hv => ?_) ?_⟩
 · obtain ⟨m,hm,e⟩:=cnP_key hl6 hv;obtain ⟨x,hx,y,hy,e2⟩:=h6 m hm;rw [←e,e2,Pl.plE_sum (by rw [ha.len x hx,hb.len y hy])];have g1:=canon_sum ha x hx;have g2:=canon_sum hb y hy;omega
 · have:=le_degL hu;rw [he] at this;omega
namespace Pl
def QB (D Y:Nat) (q:Rat):Prop:=∃ z:Int,q*(D:Rat)=(z:Rat)∧z.natAbs≤Y
theorem QB.zero (D Y:Nat):QB D Y 0:=⟨0,by rw [Rat.zero_mul]; rfl,by simp⟩
theorem QB.add {D Y Z:Nat} {p q:Rat} (hp:QB D Y p) (hq:QB D Z q):QB D (Y+Z) (p+q):=by
 obtain ⟨x,h1,h2⟩:=hp;obtain ⟨y,h3,h4⟩:=hq;refine ⟨x+y,by rw [Rat.add_mul,h1,h3,Rat.intCast_add], ?_⟩;have:=Int.natAbs_add_le x y;omega
theorem QB.mul {D E Y Z:Nat} {p q:Rat} (hp:QB D Y p) (hq:QB E Z q):QB (D*E) (Y*Z) (p*q):=by
 obtain ⟨x,h1,h2⟩:=hp;obtain ⟨y,h3,h4⟩:=hq;refine ⟨x*y, ?_,by rw [Int.natAbs_mul]; exact Nat.mul_le_mul h2 h4⟩;rw [Rat.natCast_mul,Rat.intCast_mul,←h1,←h3]
 grind
theorem QB.neg {D Y:Nat} {q:Rat} (h:QB D Y q):QB D Y (-q):=by
 obtain ⟨x,h1,h2⟩:=h;exact ⟨-x,by rw [Rat.neg_mul,h1,Rat.intCast_neg],by rw [Int.natAbs_neg]; exact h2⟩
theorem QB.mono {D Y Z:Nat} {q:Rat} (h:QB D Y q) (hz:Y≤Z):QB D Z q:=by
 obtain ⟨x,h1,h2⟩:=h;exact ⟨x,h1,by omega⟩
theorem QB.scale {D Y:Nat} {q:Rat} (h:QB D Y q) (k:Nat):QB (D*k) (Y*k) q:=by
 obtain ⟨x,h1,h2⟩:=h;refine ⟨x*k, ?_,by rw [Int.natAbs_mul]; exact Nat.mul_le_mul h2 (Nat.le_refl _)⟩;rw [Rat.natCast_mul,Rat.intCast_mul,←h1,←Rat.mul_assoc];rfl
theorem QB.parts {D Y:Nat} {q:Rat} (h:QB D Y q) (hD:0<D):q.num.natAbs≤Y∧q.den∣D:=by
 obtain ⟨z,h1,h2⟩:=h;have h0:(D:Rat)≠0:=fun h=>by have:=Rat.natCast_eq_zero_iff.1 h; omega
 have e:q=mkRat z D:=by
  rw [mkRat_div,←h1,Rat.mul_assoc,Rat.mul_inv_cancel _ h0,Rat.mul_one]
 obtain ⟨g1,g2⟩:=rat_frac (n:=z) (d:=D) (by omega);rw [e];refine ⟨Nat.le_trans (mkRat_le (by omega)).1 h2, ?_⟩;rw [g2];exact Nat.div_dvd_of_dvd (Nat.gcd_dvd_right _ _)
theorem QB.rb {D Y b:Nat} {q:Rat} (h:QB D Y q) (hD:0<D) (h1:D<P2 b) (h2:Y<P2 b):RB b q :=
 ⟨Nat.lt_of_le_of_lt (h.parts hD).1 h2,Nat.lt_of_le_of_lt (Nat.le_of_dvd hD (h.parts hD).2) h1⟩
theorem QB.of {D Y:Nat} {q:Rat} (hd:q.den∣D) (hn:q.num.natAbs≤Y):QB D (Y*D) q:=by
 refine ⟨zsc q D,(zsc_is hd).symm, ?_⟩;unfold zsc;rw [Int.natAbs_mul];exact Nat.mul_le_mul hn (Nat.div_le_self _ _)
def SB (D Y:Nat) (l:List Tm):Prop:=∀ t∈l,QB D Y t.2
theorem SB.coef {D Y:Nat} (e:List Int):∀ {l:List Tm},SB D Y l→QB D (l.length*Y) (coef l e)
 | [],_=>QB.zero _ _
 | t :: r,h=>by
  have h1:QB D Y (if t.1=e then t.2 else 0):=by
   split
   · exact h t (by simp)
   · exact QB.zero _ _
  have h2:=QB.add h1 (SB.coef e (l:=r) (fun s hs=>h s (by simp [hs])));exact h2.mono (by rw [List.length_cons,Nat.add_mul]; omega)
theorem SB.prod {D E Y Z:Nat} {a b:List Tm} (ha:SB D Y a) (hb:SB E Z b):SB (D*E) (Y*Z) (prodT a b):=by
 intro u hu;obtain ⟨x,hx,h⟩:=List.mem_flatMap.1 hu;obtain ⟨y,hy,rfl⟩:=List.mem_map.1 h;exact (ha x hx).mul (hb y hy)
theorem SB.mono {D Y Z:Nat} {l:List Tm} (h:SB D Y l) (hz:Y≤Z):SB D Z l:=fun t ht=>(h t ht).mono hz
theorem SB.scale {D Y:Nat} {l:List Tm} (h:SB D Y l) (k:Nat):SB (D*k) (Y*k) l:=fun t ht=>(h t ht).scale k
theorem SB.app {D Y:Nat} {a b:List Tm} (ha:SB D Y a) (hb:SB D Y b):SB D Y (a ++ b):=fun t ht=>(List.mem_append.1 ht).elim (ha t) (hb t)
theorem SB.app2 {D E Y Z:Nat} {a b:List Tm} (ha:SB D Y a) (hb:SB E Z b):SB (D*E) (Y*E+Z*D) (a ++ b):=by
 refine SB.app ((ha.scale E).mono (by omega)) ?_;rw [Nat.mul_comm D E];exact (hb.scale D).mono (by omega)
theorem lcm_is (a b:Nat):a*(b/Nat.gcd a b)=Nat.lcm a b:=by
 unfold Nat.lcm;rw [Nat.mul_div_assoc _ (Nat.gcd_dvd_right a b)]
theorem lcmD_min {D:Nat} {l:List Rat} (h:∀ q∈l,q.den∣D):lcmD l∣D:=by
 have key:∀ (l:List Rat) (a:Nat),a∣D→(∀ q∈l,q.den∣D)→l.foldl (fun a q=>a*(q.den/Nat.gcd a q.den)) a∣D:=by
  intro l
  induction l with
  | nil=>intro a ha _; exact ha
  | cons q r ih =>
   intro a ha h;rw [List.foldl_cons,lcm_is];exact ih _ (Nat.lcm_dvd ha (h q (by simp))) (fun s hs=>h s (by simp [hs]))
 exact key l 1 (Nat.one_dvd _) h
theorem SB.lcm {D Y:Nat} {l:List Tm} (h:SB D Y l) (hD:0<D):lcmD (l.map (·.2))≤D:=by
 refine Nat.le_of_dvd hD (lcmD_min fun q hq => ?_);obtain ⟨t,ht,rfl⟩:=List.mem_map.1 hq;exact ((h t ht).parts hD).2
theorem SB.of {Y:Nat} {l:List Tm} (h:∀ t∈l,t.2.num.natAbs≤Y):SB (lcmD (l.map (·.2))) (Y*lcmD (l.map (·.2))) l :=
 fun t ht=>QB.of (lcmD_dvd (List.mem_map_of_mem ht)) (h t ht)
end Pl
theorem cnP_len {p:List Pl.Tm} (h6:∀ t∈p,t.1.length=6):(cnP p).length≤p.length:=by
 have h:=Pl.nodup_le ((cnP p).map (·.1)) (p.map (·.1)) (canon_nrm (cnP_spec h6).1).nodup (fun e he=>by
  obtain ⟨t,ht,rfl⟩:=List.mem_map.1 he;obtain ⟨s,hs,e⟩:=cnP_key h6 ht;rw [←e]
  exact List.mem_map_of_mem hs)
 simpa using h
theorem SB.cn {D Y:Nat} {p:List Pl.Tm} (h6:∀ t∈p,t.1.length=6) (h:Pl.SB D Y p):Pl.SB D (p.length*Y) (cnP p):=by
 intro t ht;obtain ⟨h1,h2⟩:=cnP_spec h6;rw [←Pl.coef_mem (canon_nrm h1).nodup ht,h2];exact h.coef t.1
theorem txt_len {q:Rat} {b:Nat} (h:Pl.RB b q):(txt q).length≤2*(b/3)+4:=by
 have h1:=itoa_P2 h.1;have h2:=dec_P2 h.2;unfold txt;rw [List.length_append];split
 · simp; omega
 · simp; omega
theorem prodT_key {a b:List Pl.Tm} {t:Pl.Tm} (h:t∈Pl.prodT a b):∃ x∈a,∃ y∈b,t.1=Pl.plE x.1 y.1:=by
 obtain ⟨x,hx,h⟩:=List.mem_flatMap.1 h;obtain ⟨y,hy,rfl⟩:=List.mem_map.1 h;exact ⟨x,hx,y,hy,rfl⟩
def Lo (l:List Pl.Tm):Prop:=∀ t∈l,t.1.length=6∧∀ x∈t.1,0≤x∧x≤1048576
theorem Lo.small {l:List Pl.Tm} (h:Lo l):smallE l:=fun t ht=>⟨(h t ht).1,fun x hx=>by have:=(h t ht).2 x hx; omega⟩
theorem plE_bnd {B C:Int}:∀ {a b:List Int},(∀ x∈a,0≤x∧x≤B)→(∀ x∈b,0≤x∧x≤C)→∀ x∈Pl.plE a b,0≤x∧x≤B+C
 | [],_,_,_=>by simp [Pl.plE]
 | _ :: _,[],_,_=>by simp [Pl.plE]
 | x :: a,y :: b,h1,h2=>by
  intro u hu;have hu':u=x+y∨u∈Pl.plE a b:=by simpa [Pl.plE] using hu
  rcases hu' with rfl|hu
  · have:=h1 x (by simp); have:=h2 y (by simp); omega
  · exact plE_bnd (fun z hz=>h1 z (by simp [hz])) (fun z hz=>h2 z (by simp [hz])) u hu
theorem fits_SB {D Y b:Nat} {p:List Pl.Tm} (h:Pl.SB D Y p) (hD:0<D) (h1:D<P2 b) (h2:p.length*Y<P2 b) (hb:b≤1920) (hk:∀ t∈p,t.1.length=6∧∀ x∈t.1,0≤x∧x≤1099511627776) (hl:p.length≤1000000):FitsP p:=by
 refine ⟨fun e he => ?_,hl⟩;obtain ⟨t,ht,rfl⟩:=Pl.coef_present he;exact ⟨RB.str ((h.coef t.1).rb hD h1 h2) hb,hk t ht⟩
theorem mulOK_SB {D E Y Z b:Nat} {la lb:List Pl.Tm} (ha:Pl.SB D Y la) (hb:Pl.SB E Z lb) (hD:0<D) (hE:0<E) (d1:D<P2 256) (d2:E<P2 256) (y1:Y<P2 1000) (y2:Z<P2 1000) (ka:Lo la) (kb:Lo lb) (na:la.length≤1000) (nb:lb.length≤1000) (hz:la.length*lb.length*(Y*Z)<P2 b) (hb1:512≤b) (hb2:b≤1920):MulOK la lb where
 ba:=fun t ht=>(ha t ht).rb hD (P2_lt d1 (by omega)) y1
 bb:=fun t ht=>(hb t ht).rb hE (P2_lt d2 (by omega)) y2
 ea:=ka.small
 eb:=kb.small
 lla:=Nat.lt_of_le_of_lt (ha.lcm hD) d1
 llb:=Nat.lt_of_le_of_lt (hb.lcm hE) d2
 na:=by omega
 nb:=by omega
 fits:=by
  have hlen:=prodT_len la lb;have hle:la.length*lb.length≤1000*1000:=Nat.mul_le_mul na nb;refine fits_SB (ha.prod hb) (Nat.mul_pos hD hE) (P2_lt (P2_mul d1 d2) hb1) (by rw [hlen]; exact hz) hb2 (fun t ht => ?_) (by rw [hlen]; omega);obtain ⟨x,hx,y,hy,e⟩:=prodT_key ht;rw [e,Pl.plE_len (by rw [(ka x hx).1,(kb y hy).1])];refine ⟨(ka x hx).1,fun z hz => ?_⟩;have:=plE_bnd (ka x hx).2 (kb y hy).2 z hz;omega
theorem sumOK_SB {D Y b:Nat} {p:List Pl.Tm} (h:Pl.SB D Y p) (hD:0<D) (h1:D<P2 b) (h2:p.length*Y<P2 b) (hb:b≤1920) (hk:Lo p) (hl:p.length≤1000):SumOK p where
 pre:=fun a s e x=>by
  have ha:Pl.SB D Y a:=fun t ht=>h t (by rw [←e]; simp [ht]);have hla:a.length≤p.length:=by rw [←e]; simp
  exact ((ha.coef x).rb hD h1 (Nat.lt_of_le_of_lt (Nat.mul_le_mul_right _ hla) h2)).mono (by omega)
 each:=fun t ht=>((h t ht).rb hD h1 (Nat.lt_of_le_of_lt (by
  have:1≤p.length:=List.length_pos_of_mem ht;have:=Nat.mul_le_mul_right Y this
  omega) h2)).mono (by omega)
 fits:=fits_SB h hD h1 h2 hb (fun t ht=>⟨(hk t ht).1,fun x hx=>by have:=(hk t ht).2 x hx; omega⟩) (by omega)
theorem txt_pow {q:Rat} {k:Nat} (h:(txt q).length≤k):q.num.natAbs<10^k :=
 Nat.lt_of_lt_of_le (txt_dec q).1 (Nat.pow_le_pow_right (by omega) h)
theorem rdP_SB {va:Int} {ts:List Tx} {l:List Pl.Tm} {nt d B:Nat} (h:rdP va ts=some l) (hs:smallP ts nt d) (hd:3≤d) (hB:10^d≤P2 B) :
 ∃ D,0<D∧D<P2 (4*(d-2)*nt+1)∧Pl.SB D (P2 (B+(4*(d-2)*nt+1))) l:=by
 have hm:∀ t∈l,(txt t.2).length≤d:=by
  intro m hm;obtain ⟨t,ht,hr⟩:=rdP_mem h hm;have h1:=readQ_eq (rdT_parts hr).1;rw [←h1];exact (hs.2 t ht).1
 have hlen:=rdP_len h;have hD:lcmD (l.map (·.2))<P2 (4*(d-2)*nt+1):=by
  have h1:=lcmD_bnd (l:=l.map (·.2)) (b:=4*(d-2)) (fun q hq=>by
   obtain ⟨t,ht,rfl⟩:=List.mem_map.1 hq
   exact txt_den (k:=d-2) (by have:=hm t ht; omega) (by omega))
  refine P2_lt h1 ?_;have h2:l.length≤nt:=by rw [hlen]; exact hs.1
  have:=Nat.mul_le_mul_left (4*(d-2)) h2;rw [List.length_map];omega
 refine ⟨_,lcmD_pos (l.map (·.2)),hD,(Pl.SB.of (Y:=P2 B) (fun t ht => ?_)).mono ?_⟩
 · have:=txt_pow (hm t ht);omega
 · rw [P2_add];exact Nat.mul_le_mul_left _ (Nat.le_of_lt hD)
open Classical in
noncomputable def mulA (va vb:Int) (oa ob:Option (List Pl.Tm)):Int×List Tx×Int :=
 match oa,ob with
 | some la,some lb=>if va=vb then (if la≠[]∧lb≠[]∧24<degL la+degL lb then (0,[],2) else resQ va (Pl.prodT la lb)) else (0,[],4)
 | _,_=>(0,[],1)
noncomputable def addA (va vb:Int) (oa ob:Option (List Pl.Tm)):Int×List Tx×Int :=
 match oa,ob with
 | some la,some lb=>if va=vb then resQ va (la ++ lb) else (0,[],4)
 | _,_=>(0,[],1)
theorem RetMul.a {w:World} {va vb:Int} {oa ob:Option (List Pl.Tm)} {e:Ending} {w':World} (h:RetMul w va vb oa ob e w'):RetA3 w (mulA va vb oa ob) e w':=by
 unfold mulA;rcases h with ⟨la,lb,rfl,rfl,hv,h⟩|⟨hs,hv,h⟩|⟨hs,h⟩
 · simp only [if_pos hv];rcases h with ⟨hc,h⟩|⟨hc,h⟩
   · rw [if_neg hc]; exact h
   · rw [if_pos hc]; exact h
 · cases oa <;> cases ob <;> simp at hs;simp only [if_neg hv];exact h
 · cases oa <;> cases ob <;> simp at hs <;> exact h
theorem RetAdd.a {w:World} {va vb:Int} {oa ob:Option (List Pl.Tm)} {e:Ending} {w':World} (h:RetAdd w va vb oa ob e w'):RetA3 w (addA va vb oa ob) e w':=by
 unfold addA;rcases h with ⟨la,lb,rfl,rfl,hv,h⟩|⟨hs,hv,h⟩|⟨hs,h⟩
 · simp only [if_pos hv];exact h
 · cases oa <;> cases ob <;> simp at hs;simp only [if_neg hv];exact h
 · cases oa <;> cases ob <;> simp at hs <;> exact h
theorem resQ_ok {v:Int} {p:List Pl.Tm} (hv:0≤v∧v≤6) (hi:∀ t∈p,InV v.toNat t.1) (h:(resQ v p).2.2=0):(resQ v p).1=v∧rdP v (resQ v p).2.1=some (cnP p):=by
 obtain ⟨k,rfl⟩:∃ k:Nat,v=(k:Int):=⟨v.toNat,by omega⟩;rw [Int.toNat_natCast] at hi;rcases resQ_back (vars:=k) (by omega) hi with ⟨h1,h2,h3⟩|⟨h1,h2⟩
 · rw [h2]; exact ⟨rfl,h3⟩
 · rw [h2] at h; cases h
theorem mulA_ok {va vb:Int} {oa ob:Option (List Pl.Tm)} (h:(mulA va vb oa ob).2.2=0):∃ la lb,oa=some la∧ob=some lb∧va=vb∧¬ (la≠[]∧lb≠[]∧24<degL la+degL lb)∧mulA va vb oa ob=resQ va (Pl.prodT la lb):=by
 unfold mulA at h ⊢;cases oa with
 | none=>cases h
 | some la =>
 cases ob with
 | none=>cases h
 | some lb =>
 simp only at h ⊢;by_cases hv:va=vb
 · rw [if_pos hv] at h ⊢;by_cases hc:la≠[]∧lb≠[]∧24<degL la+degL lb
   · rw [if_pos hc] at h;cases h
   · rw [if_neg hc];exact ⟨la,lb,rfl,rfl,hv,hc,rfl⟩
 · rw [if_neg hv] at h;cases h
structure Pv (v:Int) (l:List Pl.Tm):Prop where
 v0:0≤v∧v≤6
 can:Pl.Canon 6 l
 inv:∀ t∈l,InV v.toNat t.1
theorem Pv.of {v:Int} {ts:List Tx} {l:List Pl.Tm} (h:rdP v ts=some l):Pv v l:=by
 have hv:=(rdP_parts h).1;refine ⟨hv,rdP_canon h, ?_⟩;obtain ⟨k,rfl⟩:∃ k:Nat,v=(k:Int):=⟨v.toNat,by omega⟩;rw [Int.toNat_natCast];exact rdP_InV h
theorem InV.pl {n:Nat} {a b:List Int} (ha:InV n a) (hb:InV n b):InV n (Pl.plE a b):=by
 obtain ⟨a1,a2,a3⟩:=ha;obtain ⟨b1,b2,b3⟩:=hb;refine ⟨by rw [Pl.plE_len (by omega),a1],fun x hx => ?_, ?_⟩
 · have key:∀ {a b:List Int},(∀ x∈a,0≤x)→(∀ x∈b,0≤x)→∀ x∈Pl.plE a b,0≤x:=by
    intro a
    induction a with
    | nil=>intro b _ _ x hx; simp [Pl.plE] at hx
    | cons u a ih =>
     intro b h1 h2 x hx;cases b with
     | nil=>simp [Pl.plE] at hx
     | cons w b =>
      have hx':x=u+w∨x∈Pl.plE a b:=by simpa [Pl.plE] using hx
      rcases hx' with rfl|hx
      · have:=h1 u (by simp); have:=h2 w (by simp); omega
      · exact ih (fun z hz=>h1 z (by simp [hz])) (fun z hz=>h2 z (by simp [hz])) x hx
   exact key a2 b2 x hx
 · unfold pad6 at a3 b3 ⊢;have e1:(Pl.plE a b).take n=Pl.plE (a.take n) (b.take n):=by unfold Pl.plE; rw [List.take_zipWith]
   have la:(a.take n).length=(b.take n).length:=by simp [a1,b1]
   have e2:Pl.plE (a.take n ++ List.replicate (6-(a.take n).length) 0) (b.take n ++ List.replicate (6-(b.take n).length) 0)=Pl.plE (a.take n) (b.take n) ++ List.replicate (6-(a.take n).length) 0:=by
    unfold Pl.plE;rw [List.zipWith_append la,←la];congr 1;rw [List.zipWith_replicate];simp
   rw [a3,b3] at e2;rw [e1,e2,Pl.plE_len la]
theorem prod_InV {n:Nat} {a b:List Pl.Tm} (ha:∀ t∈a,InV n t.1) (hb:∀ t∈b,InV n t.1):∀ t∈Pl.prodT a b,InV n t.1:=by
 intro t ht;obtain ⟨x,hx,y,hy,e⟩:=prodT_key ht;rw [e];exact (ha x hx).pl (hb y hy)
theorem app_InV {n:Nat} {a b:List Pl.Tm} (ha:∀ t∈a,InV n t.1) (hb:∀ t∈b,InV n t.1):∀ t∈a ++ b,InV n t.1:=fun t ht=>(List.mem_append.1 ht).elim (ha t) (hb t)
theorem Pv.prod {v:Int} {a b:List Pl.Tm} (ha:Pv v a) (hb:Pv v b):Pv v (cnP (Pl.prodT a b)) :=
 ⟨ha.v0,(cnP_spec fun t ht=>(prod_InV ha.inv hb.inv t ht).1).1,cnP_InV (prod_InV ha.inv hb.inv)⟩
theorem Pv.app {v:Int} {a b:List Pl.Tm} (ha:Pv v a) (hb:Pv v b):Pv v (cnP (a ++ b)) :=
 ⟨ha.v0,(cnP_spec fun t ht=>(app_InV ha.inv hb.inv t ht).1).1,cnP_InV (app_InV ha.inv hb.inv)⟩
theorem Pv.cprod {v:Int} {a b:List Pl.Tm} (ha:Pv v a) (hb:Pv v b) (e:List Int):Pl.coef (cnP (Pl.prodT a b)) e=Pl.coef (Pl.prodT a b) e:=(cnP_spec fun t ht=>(prod_InV ha.inv hb.inv t ht).1).2 e
theorem Pv.nil_iff {v:Int} {a b:List Pl.Tm} (ha:Pv v a) (hb:Pv v b):cnP (Pl.prodT a b)=[]↔a=[]∨b=[]:=by
 constructor
 · intro h;refine Classical.byContradiction fun hn => ?_;have hn':a≠[]∧b≠[]:=⟨fun h=>hn (Or.inl h),fun h=>hn (Or.inr h)⟩;exact (degL_prod ha.can hb.can ha.inv hb.inv hn'.1 hn'.2).1 h
 · intro h;have hl:=cnP_len (p:=Pl.prodT a b) (fun t ht=>(prod_InV ha.inv hb.inv t ht).1);rw [prodT_len] at hl;rcases h with rfl|rfl <;> simpa using hl
theorem resQ_fine {v:Int} {p:List Pl.Tm} (hi:∀ t∈p,InV v.toNat t.1) (hl:p.length≤4096) (hs:∀ t∈p,t.1.sum≤24):(resQ v p).2.2=0:=by
 have h6:∀ t∈p,t.1.length=6:=fun t ht=>(hi t ht).1;unfold resQ;rw [if_pos];refine ⟨Nat.le_trans (cnP_len h6) hl,fun t r e => ?_⟩;obtain ⟨s,hs',e'⟩:=cnP_key h6 (t:=t) (by rw [e]; simp);rw [←e'];exact validS_iff.2 ⟨by rw [h6 s hs']; omega,(hi s hs').2.1,hs s hs'⟩
end Go.Proofs.YtlpgonpfjbhmfaaGreatDoor
