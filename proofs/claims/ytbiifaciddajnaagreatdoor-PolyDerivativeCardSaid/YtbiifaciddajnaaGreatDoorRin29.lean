/- Part Rin29. -/
import Derived.Test.YtbiifaciddajnaaGreatDoorRin24
import Derived.Test.YtbiifaciddajnaaGreatDoorRin10
import Derived.Test.YtbiifaciddajnaaGreatDoorRin28
set_option maxRecDepth 100000
set_option maxHeartbeats 100000000
namespace Go.Proofs.YtbiifaciddajnaaGreatDoor
open Go Go.RowKit
theorem take_stepX {xs ys:List Tx} {k:Nat} (hp:xs.take k=ys.take k) (h1:k<xs.length) (h2:k<ys.length) (he:xs.getD k tm0=ys.getD k tm0):xs.take (k+1)=ys.take (k+1):=by
 simp only [List.getD_eq_getElem?_getD,h1,h2,List.getElem?_eq_getElem,Option.getD_some] at he
 rw [List.take_succ_eq_append_getElem h1,List.take_succ_eq_append_getElem h2,hp,he]
theorem keep_Polys {va vb:Int} {a b:Option Addr} {n c m d:Nat} {xs ys:List Tx} {w:World} (hx:TmSl w a n c xs) (hy:TmSl w b m d ys) :
 Calls Tryz.prog 19 #[.agg #[.int .i64 va, .slice a n c], .agg #[.int .i64 vb, .slice b m d]] w fun e w'=>e = .returned (.bool (decide (va=vb∧xs=ys)))∧Ext w w':=by
 obtain ⟨r,hr⟩:∃ r,decide (va=vb∧xs=ys)=r:=⟨_,rfl⟩
 rw [hr]
 have HR:=qh hr
 clear hr
 have hlx:=hx.len
 have hly:=hy.len
 obtain ⟨rx,hX,_,hqx⟩:=hx
 obtain ⟨ry,hY,_,hqy⟩:=hy
 have HQX:=qh hqx
 have HQY:=qh hqy
 have HLX:=qh hlx
 have HLY:=qh hly
 clear hqx hqy hlx hly
 have hmn:=hX.le
 have hmm:=hY.le
 go_enter Tryz.func19,Tryz.ntmps19
 go_upto_region 1 with (fail)
 refine box2 ?_
 intro w0 hE0 hB0 hB1 hz0
 have p00:=hB0.c 0 rfl
 have p01:=hB0.c 1 rfl
 have p10:=hB1.c 0 rfl
 have p11:=hB1.c 1 rfl
 clear hB0 hB1 hz0
 by_cases hv:va=vb
 · subst hv
   have hvv:(va != va)=false:=by simp
   by_cases hl:n=m
   · have hne:((n:Int) != (m:Int))=false:=by simp [hl]
     have HL:=qh hl
     clear hl
     go_wp2
     go_loopw [5] (fun i wr=>∃ k:Nat,k≤n∧i = .int .i64 k∧Ext w0 wr∧Hid (xs.take k=ys.take k)) (fun i _=>n-(intOf i).toNat)
     case atStart=>exact ⟨0,Nat.zero_le _,rfl,Ext.refl _,qh rfl⟩
     case round =>
      obtain ⟨k,hk,rfl,hEr,HP⟩:=hrel
      have hE:=hE0.trans hEr
      have q01:=hEr.cell p01
      have q11:=hEr.cell p11
      by_cases hlt:k<n
      · have hlt2:k<m:=by have:=HL.out; omega
        obtain ⟨b1,o1,rfl,hc1⟩:=(hX.ext hE).rd (by omega)
        obtain ⟨b2,o2,rfl,hc2⟩:=(hY.ext hE).rd (by omega)
        obtain ⟨s1,a1,n1,c1,hr1,hs1,hx1⟩:=HQX.out k hlt
        obtain ⟨s2,a2,n2,c2,hr2,hs2,hx2⟩:=HQY.out k hlt2
        have x0:=hc1 k hlt 0 (by omega)
        have x1:=hc1 k hlt 1 (by omega)
        have y0:=hc2 k hlt2 0 (by omega)
        have y1:=hc2 k hlt2 1 (by omega)
        rw [hr1] at x0 x1
        rw [hr2] at y0 y1
        simp only [List.getD_cons_zero,List.getD_cons_succ,Nat.add_zero] at x0 x1 y0 y1
        have hIN:=fun (wx:World) (hC:Ext wr wx)=>qh (keep_Ints ((hx1.ext hE).ext hC) ((hx2.ext hE).ext hC))
        have HST:Hid ((xs.getD k tm0).1=strL s1∧(ys.getD k tm0).1=strL s2):=qh ⟨hs1.symm,hs2.symm⟩
        have HNX:Hid (((xs.getD k tm0).1≠(ys.getD k tm0).1∨(xs.getD k tm0).2≠(ys.getD k tm0).2)→r=false):=qh (fun h=>by
         rw [←HR.out]
         apply decide_eq_false
         rintro ⟨_,rfl⟩
         rcases h with h|h <;> exact h rfl)
        clear hc1 hc2 hr1 hr2 hs1 hs2 hx1 hx2
        generalize hte:(xs.getD k tm0).2=e1 at *
        generalize htf:(ys.getD k tm0).2=e2 at *
        have HTE:=qh (And.intro hte htf)
        clear hte htf
        go_wp2
        by_cases hse:s1.toList=s2.toList
        · have hstb:(s1.toList != s2.toList)=false:=by simp [hse]
          have HSE:Hid ((xs.getD k tm0).1=(ys.getD k tm0).1):=qh (by
           rw [HST.out.1,HST.out.2]
           unfold strL
           rw [ByteArray.toList_eq,ByteArray.toList_eq] at hse
           exact hse)
          by_cases hee:e1=e2
          · have HIN:=fun (wx:World) (hC:Ext wr wx)=>qh (hIN wx hC).out
            have HEE:=qh hee
            rw [decide_eq_true hee] at HIN
            clear hIN hee
            have HF1:=fun (wx:World) (hC:Ext wr wx)=>qh (And.intro (hC.cell q01) (And.intro (hC.cell q11) (And.intro (hC.cell x0) (And.intro (hC.cell x1) (And.intro (hC.cell y0) (hC.cell y1))))))
            refine wp_region_typed (by kernel_rfl) (fun wx=>Ext wr wx)
             [he (.pointer (some ⟨w.heap.size,1,none⟩)),
 he (.slice (some ⟨b1,o1,none⟩) n c),
 he (.int .i64 (k:Int)),
 he (.pointer (some ⟨b1,(o1+k*2),none⟩)),
 he (.pointer (some ⟨b1,(o1+k*2),none⟩)),
 he (.string s1),
 he (.pointer (some ⟨(w.heap.size+1),1,none⟩)),
 he (.slice (some ⟨b2,o2,none⟩) m d),
 he (.int .i64 (k:Int)),
 he (.pointer (some ⟨b2,(o2+k*2),none⟩)),
 he (.pointer (some ⟨b2,(o2+k*2),none⟩)),
 he (.string s2),
 he (.bool false),
 he (.bool false),
 he (.pointer (some ⟨w.heap.size,1,none⟩)),
 he (.slice (some ⟨b1,o1,none⟩) n c),
 he (.int .i64 (k:Int)),
 he (.pointer (some ⟨b1,(o1+k*2),none⟩)),
 he (.pointer (some ⟨b1,((o1+k*2)+1),none⟩)),
 he (.slice a1 n1 c1),
 he (.pointer (some ⟨(w.heap.size+1),1,none⟩)),
 he (.slice (some ⟨b2,o2,none⟩) m d),
 he (.int .i64 (k:Int)),
 he (.pointer (some ⟨b2,(o2+k*2),none⟩)),
 he (.pointer (some ⟨b2,((o2+k*2)+1),none⟩)),
 he (.slice a2 n2 c2),
 hp (fun v wx=>v = .bool true),
 he (.bool false),
 he (.bool false)]
             (by kernel_rfl) (fun _ _ e h=>h.trans e) ((Ext.refl wr).drew) ⟨trivial,trivial,trivial,trivial,trivial,trivial,trivial,trivial,trivial,trivial,trivial,trivial,trivial,trivial,trivial,trivial,trivial,trivial,trivial,trivial,trivial,trivial,trivial,trivial,trivial,trivial,fun v w w' e h=>h,trivial,trivial,trivial⟩ ⟨?o0, ?o1, ?o2, ?o3, ?o4, ?o5, ?o6, ?o7, ?o8, ?o9, ?o10, ?o11, ?o12, ?o13, ?o14, ?o15, ?o16, ?o17, ?o18, ?o19, ?o20, ?o21, ?o22, ?o23, ?o24, ?o25, ?o26, ?o27, ?o28,trivial⟩ ?fin
            case o0=>exact ofa (d:=1) rfl rfl (fun _ _=>id) (by kernel_rfl) rfl
            case o1=>exact ol rfl rfl (fun _ _=>id) (by kernel_rfl) (by assumption)
            case o2=>exact omv rfl rfl (fun _ _=>id)
            case o3 =>
             refine obl_pq rfl fun ρ wx hC hcst h => ?_
             have e0:ρ (.tmp 28)=(.slice (some ⟨b1,o1,none⟩) n c):=h.1
             have e1:ρ (.tmp 29)=(.int .i64 (k:Int)):=h.2.1
             obtain ⟨k0,k1,k2,k3,k4,k5⟩:=(HF1 wx hC).out
             go_simp
             try (first | (intros; omega) | exact IntWalk.i64_in _ (by omega))
            case o4=>exact ofa (d:=0) rfl rfl (fun _ _=>id) (by kernel_rfl) rfl
            case o5=>exact ol rfl rfl (fun _ _=>id) (by kernel_rfl) (by assumption)
            case o6=>exact ofa (d:=1) rfl rfl (fun _ _=>id) (by kernel_rfl) rfl
            case o7=>exact ol rfl rfl (fun _ _=>id) (by kernel_rfl) (by assumption)
            case o8=>exact omv rfl rfl (fun _ _=>id)
            case o9 =>
             refine obl_pq rfl fun ρ wx hC hcst h => ?_
             have e0:ρ (.tmp 34)=(.slice (some ⟨b2,o2,none⟩) m d):=h.1
             have e1:ρ (.tmp 35)=(.int .i64 (k:Int)):=h.2.1
             obtain ⟨k0,k1,k2,k3,k4,k5⟩:=(HF1 wx hC).out
             go_simp
             try (first | (intros; omega) | exact IntWalk.i64_in _ (by omega))
            case o10=>exact ofa (d:=0) rfl rfl (fun _ _=>id) (by kernel_rfl) rfl
            case o11=>exact ol rfl rfl (fun _ _=>id) (by kernel_rfl) (by assumption)
            case o12 =>
             refine obl_pq rfl fun ρ wx hC hcst h => ?_
             have e0:ρ (.tmp 32)=(.string s1):=h.1
             have e1:ρ (.tmp 38)=(.string s2):=h.2.1
             obtain ⟨k0,k1,k2,k3,k4,k5⟩:=(HF1 wx hC).out
             go_simp
             try (first | (intros; omega) | exact IntWalk.i64_in _ (by omega))
            case o13=>exact omv rfl rfl (fun _ _=>id)
            case o14=>exact ofa (d:=1) rfl rfl (fun _ _=>id) (by kernel_rfl) rfl
            case o15=>exact ol rfl rfl (fun _ _=>id) (by kernel_rfl) (by assumption)
            case o16=>exact omv rfl rfl (fun _ _=>id)
            case o17 =>
             refine obl_pq rfl fun ρ wx hC hcst h => ?_
             have e0:ρ (.tmp 42)=(.slice (some ⟨b1,o1,none⟩) n c):=h.1
             have e1:ρ (.tmp 43)=(.int .i64 (k:Int)):=h.2.1
             obtain ⟨k0,k1,k2,k3,k4,k5⟩:=(HF1 wx hC).out
             go_simp
             try (first | (intros; omega) | exact IntWalk.i64_in _ (by omega))
            case o18=>exact ofa (d:=1) rfl rfl (fun _ _=>id) (by kernel_rfl) rfl
            case o19=>exact ol rfl rfl (fun _ _=>id) (by kernel_rfl) (by assumption)
            case o20=>exact ofa (d:=1) rfl rfl (fun _ _=>id) (by kernel_rfl) rfl
            case o21=>exact ol rfl rfl (fun _ _=>id) (by kernel_rfl) (by assumption)
            case o22=>exact omv rfl rfl (fun _ _=>id)
            case o23 =>
             refine obl_pq rfl fun ρ wx hC hcst h => ?_
             have e0:ρ (.tmp 48)=(.slice (some ⟨b2,o2,none⟩) m d):=h.1
             have e1:ρ (.tmp 49)=(.int .i64 (k:Int)):=h.2.1
             obtain ⟨k0,k1,k2,k3,k4,k5⟩:=(HF1 wx hC).out
             go_simp
             try (first | (intros; omega) | exact IntWalk.i64_in _ (by omega))
            case o24=>exact ofa (d:=1) rfl rfl (fun _ _=>id) (by kernel_rfl) rfl
            case o25=>exact ol rfl rfl (fun _ _=>id) (by kernel_rfl) (by assumption)
            case o26 =>
             refine obl_cq rfl fun ρ wx hC hcst hfn h => ?_
             have e1:ρ (.tmp 46)=(.slice a1 n1 c1):=h.2.1
             have e2:ρ (.tmp 52)=(.slice a2 n2 c2):=h.2.2.1
             obtain ⟨k0,k1,k2,k3,k4,k5⟩:=(HF1 wx hC).out
             refine ⟨33,#[.slice a1 n1 c1, .slice a2 n2 c2],by go_simp,((HIN wx hC).out).mono ?_⟩
             rintro e w' ⟨rfl,hE'⟩
             exact ⟨_,rfl,hE'.ext,rfl⟩
            case o27 =>
             refine obl_pq rfl fun ρ wx hC hcst h => ?_
             obtain ⟨v0,e0,rfl⟩:=h.1
             obtain ⟨k0,k1,k2,k3,k4,k5⟩:=(HF1 wx hC).out
             go_simp
            case o28 =>
             refine obl_pq rfl fun ρ wx hC hcst h => ?_
             have e0:ρ (.tmp 40)=(.bool false):=h.1
             have e2:ρ (.tmp 54)=(.bool false):=h.2.2.1
             obtain ⟨k0,k1,k2,k3,k4,k5⟩:=(HF1 wx hC).out
             go_simp
            case fin =>
             intro wx hC
             rintro _ rfl
             change wpList _ _ _ _ _ _
             simp only [List.length_cons,List.length_nil,List.drop_succ_cons,List.drop_zero,Act.put,List.setIfInBounds_toArray,List.set_cons_succ,List.set_cons_zero]
             go_wp2
             go_roundw
             case rel=>exact ⟨k+1,by omega,by go_num,hEr.trans hC,qh (take_stepX HP.out (by have:=HLX.out; omega) (by have:=HLY.out; omega) (Prod.ext HSE.out (by rw [HTE.out.1,HTE.out.2,HEE.out])))⟩
             case measure=>simp [intOf]; omega
          · have HIN:=fun (wx:World) (hC:Ext wr wx)=>qh (hIN wx hC).out
            have HNE:Hid (r=false):=qh (HNX.out (Or.inr hee))
            rw [decide_eq_false hee] at HIN
            clear hIN hee
            have HF2:=fun (wx:World) (hC:Ext wr wx)=>qh (And.intro (hC.cell q01) (And.intro (hC.cell q11) (And.intro (hC.cell x0) (And.intro (hC.cell x1) (And.intro (hC.cell y0) (hC.cell y1))))))
            refine wp_region_typed (by kernel_rfl) (fun wx=>Ext wr wx)
             [he (.pointer (some ⟨w.heap.size,1,none⟩)),
 he (.slice (some ⟨b1,o1,none⟩) n c),
 he (.int .i64 (k:Int)),
 he (.pointer (some ⟨b1,(o1+k*2),none⟩)),
 he (.pointer (some ⟨b1,(o1+k*2),none⟩)),
 he (.string s1),
 he (.pointer (some ⟨(w.heap.size+1),1,none⟩)),
 he (.slice (some ⟨b2,o2,none⟩) m d),
 he (.int .i64 (k:Int)),
 he (.pointer (some ⟨b2,(o2+k*2),none⟩)),
 he (.pointer (some ⟨b2,(o2+k*2),none⟩)),
 he (.string s2),
 he (.bool false),
 he (.bool false),
 he (.pointer (some ⟨w.heap.size,1,none⟩)),
 he (.slice (some ⟨b1,o1,none⟩) n c),
 he (.int .i64 (k:Int)),
 he (.pointer (some ⟨b1,(o1+k*2),none⟩)),
 he (.pointer (some ⟨b1,((o1+k*2)+1),none⟩)),
 he (.slice a1 n1 c1),
 he (.pointer (some ⟨(w.heap.size+1),1,none⟩)),
 he (.slice (some ⟨b2,o2,none⟩) m d),
 he (.int .i64 (k:Int)),
 he (.pointer (some ⟨b2,(o2+k*2),none⟩)),
 he (.pointer (some ⟨b2,((o2+k*2)+1),none⟩)),
 he (.slice a2 n2 c2),
 hp (fun v wx=>v = .bool false),
 he (.bool true),
 he (.bool true)]
             (by kernel_rfl) (fun _ _ e h=>h.trans e) ((Ext.refl wr).drew) ⟨trivial,trivial,trivial,trivial,trivial,trivial,trivial,trivial,trivial,trivial,trivial,trivial,trivial,trivial,trivial,trivial,trivial,trivial,trivial,trivial,trivial,trivial,trivial,trivial,trivial,trivial,fun v w w' e h=>h,trivial,trivial,trivial⟩ ⟨?o0, ?o1, ?o2, ?o3, ?o4, ?o5, ?o6, ?o7, ?o8, ?o9, ?o10, ?o11, ?o12, ?o13, ?o14, ?o15, ?o16, ?o17, ?o18, ?o19, ?o20, ?o21, ?o22, ?o23, ?o24, ?o25, ?o26, ?o27, ?o28,trivial⟩ ?fin
            case o0=>exact ofa (d:=1) rfl rfl (fun _ _=>id) (by kernel_rfl) rfl
            case o1=>exact ol rfl rfl (fun _ _=>id) (by kernel_rfl) (by assumption)
            case o2=>exact omv rfl rfl (fun _ _=>id)
            case o3 =>
             refine obl_pq rfl fun ρ wx hC hcst h => ?_
             have e0:ρ (.tmp 28)=(.slice (some ⟨b1,o1,none⟩) n c):=h.1
             have e1:ρ (.tmp 29)=(.int .i64 (k:Int)):=h.2.1
             obtain ⟨k0,k1,k2,k3,k4,k5⟩:=(HF2 wx hC).out
             go_simp
             try (first | (intros; omega) | exact IntWalk.i64_in _ (by omega))
            case o4=>exact ofa (d:=0) rfl rfl (fun _ _=>id) (by kernel_rfl) rfl
            case o5=>exact ol rfl rfl (fun _ _=>id) (by kernel_rfl) (by assumption)
            case o6=>exact ofa (d:=1) rfl rfl (fun _ _=>id) (by kernel_rfl) rfl
            case o7=>exact ol rfl rfl (fun _ _=>id) (by kernel_rfl) (by assumption)
            case o8=>exact omv rfl rfl (fun _ _=>id)
            case o9 =>
             refine obl_pq rfl fun ρ wx hC hcst h => ?_
             have e0:ρ (.tmp 34)=(.slice (some ⟨b2,o2,none⟩) m d):=h.1
             have e1:ρ (.tmp 35)=(.int .i64 (k:Int)):=h.2.1
             obtain ⟨k0,k1,k2,k3,k4,k5⟩:=(HF2 wx hC).out
             go_simp
             try (first | (intros; omega) | exact IntWalk.i64_in _ (by omega))
            case o10=>exact ofa (d:=0) rfl rfl (fun _ _=>id) (by kernel_rfl) rfl
            case o11=>exact ol rfl rfl (fun _ _=>id) (by kernel_rfl) (by assumption)
            case o12 =>
             refine obl_pq rfl fun ρ wx hC hcst h => ?_
             have e0:ρ (.tmp 32)=(.string s1):=h.1
             have e1:ρ (.tmp 38)=(.string s2):=h.2.1
             obtain ⟨k0,k1,k2,k3,k4,k5⟩:=(HF2 wx hC).out
             go_simp
             try (first | (intros; omega) | exact IntWalk.i64_in _ (by omega))
            case o13=>exact omv rfl rfl (fun _ _=>id)
            case o14=>exact ofa (d:=1) rfl rfl (fun _ _=>id) (by kernel_rfl) rfl
            case o15=>exact ol rfl rfl (fun _ _=>id) (by kernel_rfl) (by assumption)
            case o16=>exact omv rfl rfl (fun _ _=>id)
            case o17 =>
             refine obl_pq rfl fun ρ wx hC hcst h => ?_
             have e0:ρ (.tmp 42)=(.slice (some ⟨b1,o1,none⟩) n c):=h.1
             have e1:ρ (.tmp 43)=(.int .i64 (k:Int)):=h.2.1
             obtain ⟨k0,k1,k2,k3,k4,k5⟩:=(HF2 wx hC).out
             go_simp
             try (first | (intros; omega) | exact IntWalk.i64_in _ (by omega))
            case o18=>exact ofa (d:=1) rfl rfl (fun _ _=>id) (by kernel_rfl) rfl
            case o19=>exact ol rfl rfl (fun _ _=>id) (by kernel_rfl) (by assumption)
            case o20=>exact ofa (d:=1) rfl rfl (fun _ _=>id) (by kernel_rfl) rfl
            case o21=>exact ol rfl rfl (fun _ _=>id) (by kernel_rfl) (by assumption)
            case o22=>exact omv rfl rfl (fun _ _=>id)
            case o23 =>
             refine obl_pq rfl fun ρ wx hC hcst h => ?_
             have e0:ρ (.tmp 48)=(.slice (some ⟨b2,o2,none⟩) m d):=h.1
             have e1:ρ (.tmp 49)=(.int .i64 (k:Int)):=h.2.1
             obtain ⟨k0,k1,k2,k3,k4,k5⟩:=(HF2 wx hC).out
             go_simp
             try (first | (intros; omega) | exact IntWalk.i64_in _ (by omega))
            case o24=>exact ofa (d:=1) rfl rfl (fun _ _=>id) (by kernel_rfl) rfl
            case o25=>exact ol rfl rfl (fun _ _=>id) (by kernel_rfl) (by assumption)
            case o26 =>
             refine obl_cq rfl fun ρ wx hC hcst hfn h => ?_
             have e1:ρ (.tmp 46)=(.slice a1 n1 c1):=h.2.1
             have e2:ρ (.tmp 52)=(.slice a2 n2 c2):=h.2.2.1
             obtain ⟨k0,k1,k2,k3,k4,k5⟩:=(HF2 wx hC).out
             refine ⟨33,#[.slice a1 n1 c1, .slice a2 n2 c2],by go_simp,((HIN wx hC).out).mono ?_⟩
             rintro e w' ⟨rfl,hE'⟩
             exact ⟨_,rfl,hE'.ext,rfl⟩
            case o27 =>
             refine obl_pq rfl fun ρ wx hC hcst h => ?_
             obtain ⟨v0,e0,rfl⟩:=h.1
             obtain ⟨k0,k1,k2,k3,k4,k5⟩:=(HF2 wx hC).out
             go_simp
            case o28 =>
             refine obl_pq rfl fun ρ wx hC hcst h => ?_
             have e0:ρ (.tmp 40)=(.bool false):=h.1
             have e2:ρ (.tmp 54)=(.bool true):=h.2.2.1
             obtain ⟨k0,k1,k2,k3,k4,k5⟩:=(HF2 wx hC).out
             go_simp
            case fin =>
             intro wx hC
             rintro _ rfl
             change wpList _ _ _ _ _ _
             simp only [List.length_cons,List.length_nil,List.drop_succ_cons,List.drop_zero,Act.put,List.setIfInBounds_toArray,List.set_cons_succ,List.set_cons_zero]
             go_wp2
             go_ret
             exact ⟨by rw [HNE.out]; rfl,hE.trans hC⟩
        · have hstb:(s1.toList != s2.toList)=true:=bne_iff_ne.2 hse
          have HNE:Hid (r=false):=qh (HNX.out (Or.inl (by
           rw [HST.out.1,HST.out.2]
           unfold strL
           intro h
           apply hse
           rw [ByteArray.toList_eq,ByteArray.toList_eq]
           exact h)))
          have HF3:=fun (wx:World) (hC:Ext wr wx)=>qh (And.intro (hC.cell q01) (And.intro (hC.cell q11) (And.intro (hC.cell x0) (And.intro (hC.cell x1) (And.intro (hC.cell y0) (hC.cell y1))))))
          refine wp_region_typed (by kernel_rfl) (fun wx=>Ext wr wx)
           [he (.pointer (some ⟨w.heap.size,1,none⟩)),
 he (.slice (some ⟨b1,o1,none⟩) n c),
 he (.int .i64 (k:Int)),
 he (.pointer (some ⟨b1,(o1+k*2),none⟩)),
 he (.pointer (some ⟨b1,(o1+k*2),none⟩)),
 he (.string s1),
 he (.pointer (some ⟨(w.heap.size+1),1,none⟩)),
 he (.slice (some ⟨b2,o2,none⟩) m d),
 he (.int .i64 (k:Int)),
 he (.pointer (some ⟨b2,(o2+k*2),none⟩)),
 he (.pointer (some ⟨b2,(o2+k*2),none⟩)),
 he (.string s2),
 he (.bool true),
 he (.bool true),
 he undef,
 he undef,
 he undef,
 he undef,
 he undef,
 he undef,
 he undef,
 he undef,
 he undef,
 he undef,
 he undef,
 he undef,
 he undef,
 he undef,
 he (.bool true)]
           (by kernel_rfl) (fun _ _ e h=>h.trans e) ((Ext.refl wr).drew) ⟨trivial,trivial,trivial,trivial,trivial,trivial,trivial,trivial,trivial,trivial,trivial,trivial,trivial,trivial,trivial,trivial,trivial,trivial,trivial,trivial,trivial,trivial,trivial,trivial,trivial,trivial,trivial,trivial,trivial,trivial⟩ ⟨?o0, ?o1, ?o2, ?o3, ?o4, ?o5, ?o6, ?o7, ?o8, ?o9, ?o10, ?o11, ?o12, ?o13, ?o14, ?o15, ?o16, ?o17, ?o18, ?o19, ?o20, ?o21, ?o22, ?o23, ?o24, ?o25, ?o26, ?o27, ?o28,trivial⟩ ?fin
          case o0=>exact ofa (d:=1) rfl rfl (fun _ _=>id) (by kernel_rfl) rfl
          case o1=>exact ol rfl rfl (fun _ _=>id) (by kernel_rfl) (by assumption)
          case o2=>exact omv rfl rfl (fun _ _=>id)
          case o3 =>
           refine obl_pq rfl fun ρ wx hC hcst h => ?_
           have e0:ρ (.tmp 28)=(.slice (some ⟨b1,o1,none⟩) n c):=h.1
           have e1:ρ (.tmp 29)=(.int .i64 (k:Int)):=h.2.1
           obtain ⟨k0,k1,k2,k3,k4,k5⟩:=(HF3 wx hC).out
           go_simp
           try (first | (intros; omega) | exact IntWalk.i64_in _ (by omega))
          case o4=>exact ofa (d:=0) rfl rfl (fun _ _=>id) (by kernel_rfl) rfl
          case o5=>exact ol rfl rfl (fun _ _=>id) (by kernel_rfl) (by assumption)
          case o6=>exact ofa (d:=1) rfl rfl (fun _ _=>id) (by kernel_rfl) rfl
          case o7=>exact ol rfl rfl (fun _ _=>id) (by kernel_rfl) (by assumption)
          case o8=>exact omv rfl rfl (fun _ _=>id)
          case o9 =>
           refine obl_pq rfl fun ρ wx hC hcst h => ?_
           have e0:ρ (.tmp 34)=(.slice (some ⟨b2,o2,none⟩) m d):=h.1
           have e1:ρ (.tmp 35)=(.int .i64 (k:Int)):=h.2.1
           obtain ⟨k0,k1,k2,k3,k4,k5⟩:=(HF3 wx hC).out
           go_simp
           try (first | (intros; omega) | exact IntWalk.i64_in _ (by omega))
          case o10=>exact ofa (d:=0) rfl rfl (fun _ _=>id) (by kernel_rfl) rfl
          case o11=>exact ol rfl rfl (fun _ _=>id) (by kernel_rfl) (by assumption)
          case o12 =>
           refine obl_pq rfl fun ρ wx hC hcst h => ?_
           have e0:ρ (.tmp 32)=(.string s1):=h.1
           have e1:ρ (.tmp 38)=(.string s2):=h.2.1
           obtain ⟨k0,k1,k2,k3,k4,k5⟩:=(HF3 wx hC).out
           go_simp
           try (first | (intros; omega) | exact IntWalk.i64_in _ (by omega))
          case o13=>exact omv rfl rfl (fun _ _=>id)
          case o14=>exact obl_none rfl
          case o15=>exact obl_none rfl
          case o16=>exact obl_none rfl
          case o17=>exact obl_none rfl
          case o18=>exact obl_none rfl
          case o19=>exact obl_none rfl
          case o20=>exact obl_none rfl
          case o21=>exact obl_none rfl
          case o22=>exact obl_none rfl
          case o23=>exact obl_none rfl
          case o24=>exact obl_none rfl
          case o25=>exact obl_none rfl
          case o26=>exact obl_none rfl
          case o27=>exact obl_none rfl
          case o28 =>
           refine obl_pq rfl fun ρ wx hC hcst h => ?_
           have e0:ρ (.tmp 40)=(.bool true):=h.1
           have e2:ρ (.tmp 54)=undef:=h.2.2.1
           obtain ⟨k0,k1,k2,k3,k4,k5⟩:=(HF3 wx hC).out
           go_simp
          case fin =>
           intro wx hC
           change wpList _ _ _ _ _ _
           simp only [List.length_cons,List.length_nil,List.drop_succ_cons,List.drop_zero,Act.put,List.setIfInBounds_toArray,List.set_cons_succ,List.set_cons_zero]
           go_wp2
           go_ret
           exact ⟨by rw [HNE.out]; rfl,hE.trans hC⟩
      · have HEQ:Hid (r=true):=qh (by
         rw [←HR.out]
         apply decide_eq_true
         refine ⟨by trivial, ?_⟩
         have h1:=HP.out
         have h2:=HL.out
         rwa [List.take_of_length_le (by have:=HLX.out; omega),List.take_of_length_le (by have:=HLY.out; omega)] at h1)
        go_wp2
        go_ret
        exact ⟨by rw [HEQ.out]; rfl,hE⟩
   · have hne:((n:Int) != (m:Int))=true:=by simp; omega
     have HNE:Hid (r=false):=qh (by
      rw [←HR.out]
      apply decide_eq_false
      rintro ⟨_,rfl⟩
      exact hl (HLX.out.symm.trans HLY.out))
     clear hl
     go_wp2
     go_ret
     exact ⟨by rw [HNE.out]; rfl,hE0⟩
 · have hvv:(va != vb)=true:=by simpa using hv
   have HNE:Hid (r=false):=qh (by
    rw [←HR.out]
    apply decide_eq_false
    rintro ⟨h,_⟩
    exact hv h)
   clear hv
   go_wp2
   go_ret
   exact ⟨by rw [HNE.out]; rfl,hE0⟩
def smallP (ts:List Tx) (nt d:Nat):Prop:=ts.length≤nt∧∀ t∈ts,t.1.length≤d∧t.2.length≤12
instance (ts:List Tx) (nt d:Nat):Decidable (smallP ts nt d):=inferInstanceAs (Decidable (_∧_))
theorem keep_SmallPoly {va:Int} {a:Option Addr} {n c nt d:Nat} {ts:List Tx} {w:World} (hx:TmSl w a n c ts) :
 Calls Tryz.prog 15 #[.agg #[.int .i64 va, .slice a n c], .int .i64 nt, .int .i64 d] w fun e w'=>e = .returned (.bool (decide (smallP ts nt d)))∧Ext w w':=by
 have hlx:=hx.len
 obtain ⟨rx,hX,_,hqx⟩:=hx
 have HQX:=qh hqx
 have HLX:=qh hlx
 clear hqx hlx
 have hmn:=hX.le
 go_enter Tryz.func15,Tryz.ntmps15
 go_upto_region 1 with (fail)
 refine box1 ?_
 intro w0 hE0 hB0 hz0
 have p00:=hB0.c 0 rfl
 have p01:=hB0.c 1 rfl
 clear hB0 hz0
 by_cases hl:nt<n
 · have HNE:Hid (decide (smallP ts nt d)=false):=qh (by
    apply decide_eq_false
    rintro ⟨h,_⟩
    have:=HLX.out
    omega)
   have hli:(nt:Int)<(n:Int):=by omega
   clear hl
   go_wp2
   go_ret
   exact ⟨by rw [HNE.out]; rfl,hE0⟩
 · have hli:¬ (nt:Int)<(n:Int):=by omega
   go_wp2
   go_loopw [7] (fun i wr=>∃ k:Nat,k≤n∧i = .int .i64 k∧Ext w0 wr∧Hid (∀ i,i<k→(ts.getD i tm0).1.length≤d∧(ts.getD i tm0).2.length≤12)) (fun i _=>n-(intOf i).toNat)
   case atStart=>exact ⟨0,Nat.zero_le _,rfl,Ext.refl _,qh (fun i hi=>absurd hi (by omega))⟩
   case round =>
    obtain ⟨k,hk,rfl,hEr,HP⟩:=hrel
    have hE:=hE0.trans hEr
    have q01:=hEr.cell p01
    by_cases hlt:k<n
    · obtain ⟨b1,o1,rfl,hc1⟩:=(hX.ext hE).rd (by omega)
      obtain ⟨s1,a1,n1,c1,hr1,hs1,hx1⟩:=HQX.out k hlt
      have x0:=hc1 k hlt 0 (by omega)
      have x1:=hc1 k hlt 1 (by omega)
      rw [hr1] at x0 x1
      simp only [List.getD_cons_zero,List.getD_cons_succ,Nat.add_zero] at x0 x1
      have hln:=hx1.len
      have hsl:s1.size=(ts.getD k tm0).1.length:=by rw [←hs1,strL_len]
      have HST:Hid (s1.size=(ts.getD k tm0).1.length∧(ts.getD k tm0).2.length=n1):=qh ⟨hsl,hln⟩
      have HMM:Hid (ts.getD k tm0∈ts):=qh (by simp [List.getD_eq_getElem?_getD,HLX.out,hlt])
      clear hc1 hr1 hs1 hx1 hln hsl
      by_cases h1:d<s1.size
      · have h1':(d:Int)<(s1.size:Int):=by omega
        have HNE:Hid (decide (smallP ts nt d)=false):=qh (by
         apply decide_eq_false
         rintro ⟨_,h⟩
         have:=h _ HMM.out
         have:=HST.out
         omega)
        go_wp2
        go_ret
        exact ⟨by rw [HNE.out]; rfl,hE⟩
      · have h1':¬ (d:Int)<(s1.size:Int):=by omega
        by_cases h2:12<n1
        · have h2':(12:Int)<(n1:Int):=by omega
          have HNE:Hid (decide (smallP ts nt d)=false):=qh (by
           apply decide_eq_false
           rintro ⟨_,h⟩
           have:=h _ HMM.out
           have:=HST.out
           omega)
          go_wp2
          go_ret
          exact ⟨by rw [HNE.out]; rfl,hE⟩
        · have h2':¬ (12:Int)<(n1:Int):=by omega
          have HP2:Hid (∀ i,i<k+1→(ts.getD i tm0).1.length≤d∧(ts.getD i tm0).2.length≤12):=qh (fun i hi=>by
           by_cases e:i=k
           · subst e
             have:=HST.out
             omega
           · exact HP.out i (by omega))
          go_wp2
          go_roundw
          case rel=>exact ⟨k+1,by omega,by go_num,hEr,HP2⟩
          case measure=>simp [intOf]; omega
    · have HEQ:Hid (decide (smallP ts nt d)=true):=qh (by
       apply decide_eq_true
       refine ⟨by have:=HLX.out; omega,fun t ht => ?_⟩
       obtain ⟨i,hi,rfl⟩:=List.mem_iff_getElem.1 ht
       have:=HP.out i (by have:=HLX.out; omega)
       simpa [List.getD_eq_getElem?_getD,hi] using this)
      go_wp2
      go_ret
      exact ⟨by rw [HEQ.out]; rfl,hE⟩
end Go.Proofs.YtbiifaciddajnaaGreatDoor
namespace Go.Proofs.YtbiifaciddajnaaGreatDoor
open Go Go.RowKit
section
variable {P:Program} {Q:Exit→Act→World→Prop}
end
end Go.Proofs.YtbiifaciddajnaaGreatDoor
namespace Go.Proofs.YtbiifaciddajnaaGreatDoor
open Go Go.RowKit
def NOi (w0:World) (xs:List Int) (v:Value) (w:World):Prop:=∃ a n c,v = .slice a n c∧Own w w0.heap.size 3 a n c (xs.map (Value.int .i64))
theorem NOi.x (w0:World) (xs:List Int):StX (NOi w0 xs):=fun _ _ _ x ⟨a,n,c,h1,h2⟩=>⟨a,n,c,h1,h2.ext x⟩
def NTm (w0:World) (s:ByteArray) (xs:List Int) (v:Value) (w:World):Prop:=∃ a n c,v = .agg (tmL s a n c).toArray∧Own w w0.heap.size 3 a n c (xs.map (Value.int .i64))
theorem NTm.x (w0:World) (s:ByteArray) (xs:List Int):StX (NTm w0 s xs):=fun _ _ _ x ⟨a,n,c,h1,h2⟩=>⟨a,n,c,h1,h2.ext x⟩
def NTs (w0:World) (s:ByteArray) (xs:List Int) (v:Value) (w:World):Prop:=∃ Z a n c,v = .slice (some ⟨Z,0,none⟩) 1 1∧Arr w Z 35 (tmL s a n c)∧Own w w0.heap.size 3 a n c (xs.map (Value.int .i64))
theorem NTs.x (w0:World) (s:ByteArray) (xs:List Int):StX (NTs w0 s xs):=fun _ _ _ x ⟨Z,a,n,c,h1,h2,h3⟩=>⟨Z,a,n,c,h1,h2.ext x,h3.ext x⟩
theorem TmOr.kept {w w':World} {b:Nat} {r:List Value} {t:Tx} {row:Option Nat} (h:TmOr w b r t) (hg:w.grownBy w' row) (hne:∀ a n c cs,Own w b 3 a n c cs→blk a=none∨blk a≠row):TmOr w' b r t:=by
 obtain ⟨s,a,n,c,h1,h2,h3⟩:=h
 exact ⟨s,a,n,c,h1,h2,h3.kept hg (hne _ _ _ _ h3)⟩
end Go.Proofs.YtbiifaciddajnaaGreatDoor
namespace Go.Proofs.YtbiifaciddajnaaGreatDoor
open Go Go.RowKit
def ExF (w:World) (S:Nat→Prop) (a:Option Addr) (c:Nat):Prop:=(a=none∧c=0)∨∃ g cs,a=some ⟨g,0,none⟩∧S g∧Arr w g 3 cs∧cs.length=c∧c≤maxLen
theorem ExF.of {w:World} {base:Nat} {S:Nat→Prop} {a:Option Addr} {n c:Nat} {xs:List Value} (hS:∀ g,base≤g→g<w.heap.size→S g) (h:Own w base 3 a n c xs):n≤c∧ExF w S a c:=by
 refine ⟨h.cap, ?_⟩
 rcases h.2 with ⟨hv,_⟩|⟨g,cap,cur,hv,hb,hh,hnc,hm,hs,_⟩
 · simp only [Value.slice.injEq] at hv
   exact Or.inl ⟨hv.1,hv.2.2⟩
 · simp only [Value.slice.injEq] at hv
   have hA:Arr w g 3 cur.toList:=by unfold Arr; rw [hh]
   refine Or.inr ⟨g,cur.toList,hv.1,hS g hb hA.lt,hA, ?_,by rw [hv.2.2]; exact hm⟩
   · rw [hv.2.2]; simpa using hs
theorem ExF.set {w:World} {S:Nat→Prop} {a:Option Addr} {c:Nat} (h:ExF w S a c) (g' j:Nat) (u:Value):ExF (w.setCell ⟨g',j,none⟩ u) S a c:=by
 rcases h with h|⟨g,cs,h1,h2,h3,h4,h5⟩
 · exact Or.inl h
 · by_cases e:g=g'
   · subst e
     exact Or.inr ⟨g,_,h1,h2,h3.set j u,by simpa using h4,h5⟩
   · exact Or.inr ⟨g,cs,h1,h2,h3.far e u,h4,h5⟩
theorem ExF.ext {w w':World} {S:Nat→Prop} {a:Option Addr} {c:Nat} (h:ExF w S a c) (e:Ext w w'):ExF w' S a c:=by
 rcases h with h|⟨g,cs,h1,h2,h3,h4,h5⟩
 · exact Or.inl h
 · exact Or.inr ⟨g,cs,h1,h2,h3.ext e,h4,h5⟩
structure TmW (w:World) (S:Nat→Prop) (g n:Nat) (cs:List Value):Prop where
 arr:Arr w g 35 cs
 ge:S g
 at':∀ i,i<n→∃ s a c' n',cs[i*2]?=some (.string s)∧cs[i*2+1]?=some (.slice a n' c')∧n'≤c'∧ExF w S a c'
theorem TmW.ext {w w':World} {S:Nat→Prop} {g n:Nat} {cs:List Value} (h:TmW w S g n cs) (e:Ext w w'):TmW w' S g n cs :=
 ⟨h.arr.ext e,h.ge,fun i hi=>by obtain ⟨s,a,c',n',h1,h2,h3,h4⟩:=h.at' i hi; exact ⟨s,a,c',n',h1,h2,h3,h4.ext e⟩⟩
theorem ExF.keep {w w':World} {H0:Nat} {S:Nat→Prop} {a:Option Addr} {c:Nat} (h:ExF w S a c) (e:Keep H0 w w') (hS:∀ g,S g→H0≤g):ExF w' S a c:=by
 rcases h with h|⟨g,cs,h1,h2,h3,h4,h5⟩
 · exact Or.inl h
 · exact Or.inr ⟨g,cs,h1,h2,e.arr h3 (hS g h2),h4,h5⟩
theorem TmW.keep {w w':World} {H0:Nat} {S:Nat→Prop} {g n:Nat} {cs:List Value} (h:TmW w S g n cs) (e:Keep H0 w w') (hS:∀ g,S g→H0≤g):TmW w' S g n cs :=
 ⟨e.arr h.arr (hS g h.ge),h.ge,fun i hi=>by obtain ⟨s,a,c',n',h1,h2,h3,h4⟩:=h.at' i hi; exact ⟨s,a,c',n',h1,h2,h3,h4.keep e hS⟩⟩
theorem TmW.of {w:World} {base g n c:Nat} {S:Nat→Prop} {ts:List Tx} (hS:∀ g,base≤g→g<w.heap.size→S g) (h:TmO w base (some ⟨g,0,none⟩) n c ts):∃ cs,TmW w S g n cs:=by
 obtain ⟨rows,hO,hl,hR⟩:=h
 have hlen:=hO.len (by omega)
 have hfl:=fun i (hi:i<n) j (hj:j<2)=>flat_get rows hO.1 i j hj
 rcases hO.2.2 with ⟨hv,_⟩|⟨g',cap,cur,hv,hb,hh,hnc,hm,hs,htk⟩
 · simp at hv
 simp only [Value.slice.injEq,Option.some.injEq,Addr.mk.injEq,and_true,true_and] at hv
 obtain ⟨rfl,rfl⟩:=hv
 have hA:Arr w g 35 cur.toList:=by unfold Arr; rw [hh]
 refine ⟨cur.toList,hA,hS g hb hA.lt,fun i hi => ?_⟩
 obtain ⟨s,a,n',c',h1,_,h3⟩:=hR i hi
 have hget:∀ j,j<2→cur.toList[i*2+j]?=(tmL s a n' c')[j]?:=fun j hj=>by
  have e1:=hfl i hi j hj
  have e2:rows[i]?=some (tmL s a n' c'):=by
   have:i<rows.length:=by omega
   rw [List.getElem?_eq_getElem this]
   rw [List.getD_eq_getElem?_getD,List.getElem?_eq_getElem this] at h1
   exact congrArg some h1
  rw [←htk,e2] at e1
  rw [List.getElem?_take_of_lt (by omega)] at e1
  simpa using e1
 obtain ⟨e1,e2⟩:=ExF.of hS h3
 exact ⟨s,a,c',n',hget 0 (by omega),hget 1 (by omega),e1,e2⟩
end Go.Proofs.YtbiifaciddajnaaGreatDoor
