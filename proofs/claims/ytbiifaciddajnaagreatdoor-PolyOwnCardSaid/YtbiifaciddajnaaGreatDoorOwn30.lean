/- Part Own30. -/
import Derived.Test.YtbiifaciddajnaaGreatDoorOwn24
import Derived.Test.YtbiifaciddajnaaGreatDoorOwn11
set_option maxRecDepth 100000
set_option maxHeartbeats 100000000
namespace Go.Proofs.YtbiifaciddajnaaGreatDoor
open Go Go.RowKit
theorem take_stepX {xs ys:List Tx} {k:Nat} (hp:xs.take k=ys.take k) (h1:k<xs.length) (h2:k<ys.length) (he:xs.getD k tm0=ys.getD k tm0):xs.take (k+1)=ys.take (k+1):=by
 simp only [List.getD_eq_getElem?_getD,h1,h2,List.getElem?_eq_getElem,Option.getD_some] at he
 rw [List.take_succ_eq_append_getElem h1,List.take_succ_eq_append_getElem h2,hp,he]
theorem keep_Polys {va vb:Int} {a b:Option Addr} {n c m d:Nat} {xs ys:List Tx} {w:World} (hx:TmSl w a n c xs) (hy:TmSl w b m d ys) :
 Calls Tryz.prog 19 #[.agg #[.int .i64 va, .slice a n c], .agg #[.int .i64 vb, .slice b m d]] w fun e w'=>e = .returned (.bool (decide (va=vb∧xs=ys)))∧Ext w w':=by
 obtain ⟨r,hr⟩:∃ r,decide (va=vb∧xs=ys)=r:=⟨_,rfl⟩
 rw [hr]
 have HR:=qh hr
 clear hr
 have hlx:=hx.len
 have hly:=hy.len
 obtain ⟨rx,hX,_,hqx⟩:=hx
 obtain ⟨ry,hY,_,hqy⟩:=hy
 have HQX:=qh hqx
 have HQY:=qh hqy
 have HLX:=qh hlx
 have HLY:=qh hly
 clear hqx hqy hlx hly
 have hmn:=hX.le
 have hmm:=hY.le
 go_enter Tryz.func19,Tryz.ntmps19
 go_upto_region 1 with (fail)
 refine box2 ?_
 intro w0 hE0 hB0 hB1 hz0
 have p00:w0.cell? ⟨w.heap.size,0,none⟩=some (.int .i64 va):=hB0.cell (i:=0) (by simp)
 have p01:w0.cell? ⟨w.heap.size,1,none⟩=some (.slice a n c):=hB0.cell (i:=1) (by simp)
 have p10:w0.cell? ⟨(w.heap.size+1),0,none⟩=some (.int .i64 vb):=hB1.cell (i:=0) (by simp)
 have p11:w0.cell? ⟨(w.heap.size+1),1,none⟩=some (.slice b m d):=hB1.cell (i:=1) (by simp)
 clear hB0 hB1 hz0
 by_cases hv:va=vb
 · subst hv
   have hvv:(va != va)=false:=by simp
   by_cases hl:n=m
   · have hne:((n:Int) != (m:Int))=false:=by simp [hl]
     have HL:=qh hl
     clear hl
     go_wp2
     go_loopw [5] (fun i wr=>∃ k:Nat,k≤n∧i = .int .i64 k∧Ext w0 wr∧Hid (xs.take k=ys.take k)) (fun i _=>n-(intOf i).toNat)
     case atStart=>exact ⟨0,Nat.zero_le _,rfl,Ext.refl _,qh rfl⟩
     case round =>
      obtain ⟨k,hk,rfl,hEr,HP⟩:=hrel
      have hE:=hE0.trans hEr
      have q01:=hEr.cell p01
      have q11:=hEr.cell p11
      by_cases hlt:k<n
      · have hlt2:k<m:=by have:=HL.out; omega
        obtain ⟨b1,o1,rfl,hc1⟩:=(hX.ext hE).rd (by omega)
        obtain ⟨b2,o2,rfl,hc2⟩:=(hY.ext hE).rd (by omega)
        obtain ⟨s1,a1,n1,c1,hr1,hs1,hx1⟩:=HQX.out k hlt
        obtain ⟨s2,a2,n2,c2,hr2,hs2,hx2⟩:=HQY.out k hlt2
        have x0:=hc1 k hlt 0 (by omega)
        have x1:=hc1 k hlt 1 (by omega)
        have y0:=hc2 k hlt2 0 (by omega)
        have y1:=hc2 k hlt2 1 (by omega)
        rw [hr1] at x0 x1
        rw [hr2] at y0 y1
        simp only [List.getD_cons_zero,List.getD_cons_succ,Nat.add_zero] at x0 x1 y0 y1
        have hIN:=fun (wx:World) (hC:Ext wr wx)=>qh (keep_Ints ((hx1.ext hE).ext hC) ((hx2.ext hE).ext hC))
        have HST:Hid ((xs.getD k tm0).1=strL s1∧(ys.getD k tm0).1=strL s2):=qh ⟨hs1.symm,hs2.symm⟩
        have HNX:Hid (((xs.getD k tm0).1≠(ys.getD k tm0).1∨(xs.getD k tm0).2≠(ys.getD k tm0).2)→r=false):=qh (fun h=>by
         rw [←HR.out]
         apply decide_eq_false
         rintro ⟨_,rfl⟩
         rcases h with h|h <;> exact h rfl)
        clear hc1 hc2 hr1 hr2 hs1 hs2 hx1 hx2
        generalize hte:(xs.getD k tm0).2=e1 at *
        generalize htf:(ys.getD k tm0).2=e2 at *
        have HTE:=qh (And.intro hte htf)
        clear hte htf
        go_wp2
        by_cases hse:s1.toList=s2.toList
        · have hstb:(s1.toList != s2.toList)=false:=by simp [hse]
          have HSE:Hid ((xs.getD k tm0).1=(ys.getD k tm0).1):=qh (by
           rw [HST.out.1,HST.out.2]
           unfold strL
           rw [ByteArray.toList_eq,ByteArray.toList_eq] at hse
           exact hse)
          by_cases hee:e1=e2
          · have HIN:=fun (wx:World) (hC:Ext wr wx)=>qh (hIN wx hC).out
            have HEE:=qh hee
            rw [decide_eq_true hee] at HIN
            clear hIN hee
            have HF1:=fun (wx:World) (hC:Ext wr wx)=>qh (And.intro (hC.cell q01) (And.intro (hC.cell q11) (And.intro (hC.cell x0) (And.intro (hC.cell x1) (And.intro (hC.cell y0) (hC.cell y1))))))
            refine wp_region_typed (by kernel_rfl) (fun wx=>Ext wr wx)
             [he (.pointer (some ⟨w.heap.size,1,none⟩)),
 he (.slice (some ⟨b1,o1,none⟩) n c),
 he (.int .i64 (k:Int)),
 he (.pointer (some ⟨b1,(o1+k*2),none⟩)),
 he (.pointer (some ⟨b1,(o1+k*2),none⟩)),
 he (.string s1),
 he (.pointer (some ⟨(w.heap.size+1),1,none⟩)),
 he (.slice (some ⟨b2,o2,none⟩) m d),
 he (.int .i64 (k:Int)),
 he (.pointer (some ⟨b2,(o2+k*2),none⟩)),
 he (.pointer (some ⟨b2,(o2+k*2),none⟩)),
 he (.string s2),
 he (.bool false),
 he (.bool false),
 he (.pointer (some ⟨w.heap.size,1,none⟩)),
 he (.slice (some ⟨b1,o1,none⟩) n c),
 he (.int .i64 (k:Int)),
 he (.pointer (some ⟨b1,(o1+k*2),none⟩)),
 he (.pointer (some ⟨b1,((o1+k*2)+1),none⟩)),
 he (.slice a1 n1 c1),
 he (.pointer (some ⟨(w.heap.size+1),1,none⟩)),
 he (.slice (some ⟨b2,o2,none⟩) m d),
 he (.int .i64 (k:Int)),
 he (.pointer (some ⟨b2,(o2+k*2),none⟩)),
 he (.pointer (some ⟨b2,((o2+k*2)+1),none⟩)),
 he (.slice a2 n2 c2),
 hp (fun v wx=>v = .bool true),
 he (.bool false),
 he (.bool false)]
             (by kernel_rfl) (fun _ _ e h=>h.trans e) ((Ext.refl wr).drew) ⟨trivial,trivial,trivial,trivial,trivial,trivial,trivial,trivial,trivial,trivial,trivial,trivial,trivial,trivial,trivial,trivial,trivial,trivial,trivial,trivial,trivial,trivial,trivial,trivial,trivial,trivial,fun v w w' e h=>h,trivial,trivial,trivial⟩ ⟨?o0, ?o1, ?o2, ?o3, ?o4, ?o5, ?o6, ?o7, ?o8, ?o9, ?o10, ?o11, ?o12, ?o13, ?o14, ?o15, ?o16, ?o17, ?o18, ?o19, ?o20, ?o21, ?o22, ?o23, ?o24, ?o25, ?o26, ?o27, ?o28,trivial⟩ ?fin
            case o0 =>
             refine obl_pq rfl fun ρ wx hC hcst h => ?_
             have e0:ρ (.tmp 2)=(.pointer (some ⟨w.heap.size,0,none⟩)):=h.1
             obtain ⟨k0,k1,k2,k3,k4,k5⟩:=(HF1 wx hC).out
             go_simp
            case o1 =>
             refine obl_pq rfl fun ρ wx hC hcst h => ?_
             have e0:ρ (.tmp 27)=(.pointer (some ⟨w.heap.size,1,none⟩)):=h.1
             obtain ⟨k0,k1,k2,k3,k4,k5⟩:=(HF1 wx hC).out
             go_simp
            case o2=>exact obl_pmove rfl (.inl rfl) (fun _ _ _ h=>h.1)
            case o3 =>
             refine obl_pq rfl fun ρ wx hC hcst h => ?_
             have e0:ρ (.tmp 28)=(.slice (some ⟨b1,o1,none⟩) n c):=h.1
             have e1:ρ (.tmp 29)=(.int .i64 (k:Int)):=h.2.1
             obtain ⟨k0,k1,k2,k3,k4,k5⟩:=(HF1 wx hC).out
             go_simp
             try (first | (intros; omega) | exact IntWalk.i64_in _ (by omega))
            case o4 =>
             refine obl_pq rfl fun ρ wx hC hcst h => ?_
             have e0:ρ (.tmp 30)=(.pointer (some ⟨b1,(o1+k*2),none⟩)):=h.1
             obtain ⟨k0,k1,k2,k3,k4,k5⟩:=(HF1 wx hC).out
             go_simp
            case o5 =>
             refine obl_pq rfl fun ρ wx hC hcst h => ?_
             have e0:ρ (.tmp 31)=(.pointer (some ⟨b1,(o1+k*2),none⟩)):=h.1
             obtain ⟨k0,k1,k2,k3,k4,k5⟩:=(HF1 wx hC).out
             go_simp
            case o6 =>
             refine obl_pq rfl fun ρ wx hC hcst h => ?_
             have e0:ρ (.tmp 3)=(.pointer (some ⟨(w.heap.size+1),0,none⟩)):=h.1
             obtain ⟨k0,k1,k2,k3,k4,k5⟩:=(HF1 wx hC).out
             go_simp
            case o7 =>
             refine obl_pq rfl fun ρ wx hC hcst h => ?_
             have e0:ρ (.tmp 33)=(.pointer (some ⟨(w.heap.size+1),1,none⟩)):=h.1
             obtain ⟨k0,k1,k2,k3,k4,k5⟩:=(HF1 wx hC).out
             go_simp
            case o8=>exact obl_pmove rfl (.inl rfl) (fun _ _ _ h=>h.1)
            case o9 =>
             refine obl_pq rfl fun ρ wx hC hcst h => ?_
             have e0:ρ (.tmp 34)=(.slice (some ⟨b2,o2,none⟩) m d):=h.1
             have e1:ρ (.tmp 35)=(.int .i64 (k:Int)):=h.2.1
             obtain ⟨k0,k1,k2,k3,k4,k5⟩:=(HF1 wx hC).out
             go_simp
             try (first | (intros; omega) | exact IntWalk.i64_in _ (by omega))
            case o10 =>
             refine obl_pq rfl fun ρ wx hC hcst h => ?_
             have e0:ρ (.tmp 36)=(.pointer (some ⟨b2,(o2+k*2),none⟩)):=h.1
             obtain ⟨k0,k1,k2,k3,k4,k5⟩:=(HF1 wx hC).out
             go_simp
            case o11 =>
             refine obl_pq rfl fun ρ wx hC hcst h => ?_
             have e0:ρ (.tmp 37)=(.pointer (some ⟨b2,(o2+k*2),none⟩)):=h.1
             obtain ⟨k0,k1,k2,k3,k4,k5⟩:=(HF1 wx hC).out
             go_simp
            case o12 =>
             refine obl_pq rfl fun ρ wx hC hcst h => ?_
             have e0:ρ (.tmp 32)=(.string s1):=h.1
             have e1:ρ (.tmp 38)=(.string s2):=h.2.1
             obtain ⟨k0,k1,k2,k3,k4,k5⟩:=(HF1 wx hC).out
             go_simp
             try (first | (intros; omega) | exact IntWalk.i64_in _ (by omega))
            case o13=>exact obl_pmove rfl (.inl rfl) (fun _ _ _ h=>h.1)
            case o14 =>
             refine obl_pq rfl fun ρ wx hC hcst h => ?_
             have e0:ρ (.tmp 2)=(.pointer (some ⟨w.heap.size,0,none⟩)):=h.1
             obtain ⟨k0,k1,k2,k3,k4,k5⟩:=(HF1 wx hC).out
             go_simp
            case o15 =>
             refine obl_pq rfl fun ρ wx hC hcst h => ?_
             have e0:ρ (.tmp 41)=(.pointer (some ⟨w.heap.size,1,none⟩)):=h.1
             obtain ⟨k0,k1,k2,k3,k4,k5⟩:=(HF1 wx hC).out
             go_simp
            case o16=>exact obl_pmove rfl (.inl rfl) (fun _ _ _ h=>h.1)
            case o17 =>
             refine obl_pq rfl fun ρ wx hC hcst h => ?_
             have e0:ρ (.tmp 42)=(.slice (some ⟨b1,o1,none⟩) n c):=h.1
             have e1:ρ (.tmp 43)=(.int .i64 (k:Int)):=h.2.1
             obtain ⟨k0,k1,k2,k3,k4,k5⟩:=(HF1 wx hC).out
             go_simp
             try (first | (intros; omega) | exact IntWalk.i64_in _ (by omega))
            case o18 =>
             refine obl_pq rfl fun ρ wx hC hcst h => ?_
             have e0:ρ (.tmp 44)=(.pointer (some ⟨b1,(o1+k*2),none⟩)):=h.1
             obtain ⟨k0,k1,k2,k3,k4,k5⟩:=(HF1 wx hC).out
             go_simp
            case o19 =>
             refine obl_pq rfl fun ρ wx hC hcst h => ?_
             have e0:ρ (.tmp 45)=(.pointer (some ⟨b1,((o1+k*2)+1),none⟩)):=h.1
             obtain ⟨k0,k1,k2,k3,k4,k5⟩:=(HF1 wx hC).out
             go_simp
            case o20 =>
             refine obl_pq rfl fun ρ wx hC hcst h => ?_
             have e0:ρ (.tmp 3)=(.pointer (some ⟨(w.heap.size+1),0,none⟩)):=h.1
             obtain ⟨k0,k1,k2,k3,k4,k5⟩:=(HF1 wx hC).out
             go_simp
            case o21 =>
             refine obl_pq rfl fun ρ wx hC hcst h => ?_
             have e0:ρ (.tmp 47)=(.pointer (some ⟨(w.heap.size+1),1,none⟩)):=h.1
             obtain ⟨k0,k1,k2,k3,k4,k5⟩:=(HF1 wx hC).out
             go_simp
            case o22=>exact obl_pmove rfl (.inl rfl) (fun _ _ _ h=>h.1)
            case o23 =>
             refine obl_pq rfl fun ρ wx hC hcst h => ?_
             have e0:ρ (.tmp 48)=(.slice (some ⟨b2,o2,none⟩) m d):=h.1
             have e1:ρ (.tmp 49)=(.int .i64 (k:Int)):=h.2.1
             obtain ⟨k0,k1,k2,k3,k4,k5⟩:=(HF1 wx hC).out
             go_simp
             try (first | (intros; omega) | exact IntWalk.i64_in _ (by omega))
            case o24 =>
             refine obl_pq rfl fun ρ wx hC hcst h => ?_
             have e0:ρ (.tmp 50)=(.pointer (some ⟨b2,(o2+k*2),none⟩)):=h.1
             obtain ⟨k0,k1,k2,k3,k4,k5⟩:=(HF1 wx hC).out
             go_simp
            case o25 =>
             refine obl_pq rfl fun ρ wx hC hcst h => ?_
             have e0:ρ (.tmp 51)=(.pointer (some ⟨b2,((o2+k*2)+1),none⟩)):=h.1
             obtain ⟨k0,k1,k2,k3,k4,k5⟩:=(HF1 wx hC).out
             go_simp
            case o26 =>
             refine obl_cq rfl fun ρ wx hC hcst hfn h => ?_
             have e1:ρ (.tmp 46)=(.slice a1 n1 c1):=h.2.1
             have e2:ρ (.tmp 52)=(.slice a2 n2 c2):=h.2.2.1
             obtain ⟨k0,k1,k2,k3,k4,k5⟩:=(HF1 wx hC).out
             refine ⟨33,#[.slice a1 n1 c1, .slice a2 n2 c2],by go_simp,((HIN wx hC).out).mono ?_⟩
             rintro e w' ⟨rfl,hE'⟩
             exact ⟨_,rfl,hE'.ext,rfl⟩
            case o27 =>
             refine obl_pq rfl fun ρ wx hC hcst h => ?_
             obtain ⟨v0,e0,rfl⟩:=h.1
             obtain ⟨k0,k1,k2,k3,k4,k5⟩:=(HF1 wx hC).out
             go_simp
            case o28 =>
             refine obl_pq rfl fun ρ wx hC hcst h => ?_
             have e0:ρ (.tmp 40)=(.bool false):=h.1
             have e2:ρ (.tmp 54)=(.bool false):=h.2.2.1
             obtain ⟨k0,k1,k2,k3,k4,k5⟩:=(HF1 wx hC).out
             go_simp
            case fin =>
             intro wx hC
             rintro _ rfl
             change wpList _ _ _ _ _ _
             simp only [List.length_cons,List.length_nil,List.drop_succ_cons,List.drop_zero,Act.put,List.setIfInBounds_toArray,List.set_cons_succ,List.set_cons_zero]
             go_wp2
             go_roundw
             case rel=>exact ⟨k+1,by omega,by go_num,hEr.trans hC,qh (take_stepX HP.out (by have:=HLX.out; omega) (by have:=HLY.out; omega) (Prod.ext HSE.out (by rw [HTE.out.1,HTE.out.2,HEE.out])))⟩
             case measure=>simp [intOf]; omega
          · have HIN:=fun (wx:World) (hC:Ext wr wx)=>qh (hIN wx hC).out
            have HNE:Hid (r=false):=qh (HNX.out (Or.inr hee))
            rw [decide_eq_false hee] at HIN
            clear hIN hee
            have HF2:=fun (wx:World) (hC:Ext wr wx)=>qh (And.intro (hC.cell q01) (And.intro (hC.cell q11) (And.intro (hC.cell x0) (And.intro (hC.cell x1) (And.intro (hC.cell y0) (hC.cell y1))))))
            refine wp_region_typed (by kernel_rfl) (fun wx=>Ext wr wx)
             [he (.pointer (some ⟨w.heap.size,1,none⟩)),
 he (.slice (some ⟨b1,o1,none⟩) n c),
 he (.int .i64 (k:Int)),
 he (.pointer (some ⟨b1,(o1+k*2),none⟩)),
 he (.pointer (some ⟨b1,(o1+k*2),none⟩)),
 he (.string s1),
 he (.pointer (some ⟨(w.heap.size+1),1,none⟩)),
 he (.slice (some ⟨b2,o2,none⟩) m d),
 he (.int .i64 (k:Int)),
 he (.pointer (some ⟨b2,(o2+k*2),none⟩)),
 he (.pointer (some ⟨b2,(o2+k*2),none⟩)),
 he (.string s2),
 he (.bool false),
 he (.bool false),
 he (.pointer (some ⟨w.heap.size,1,none⟩)),
 he (.slice (some ⟨b1,o1,none⟩) n c),
 he (.int .i64 (k:Int)),
 he (.pointer (some ⟨b1,(o1+k*2),none⟩)),
 he (.pointer (some ⟨b1,((o1+k*2)+1),none⟩)),
 he (.slice a1 n1 c1),
 he (.pointer (some ⟨(w.heap.size+1),1,none⟩)),
 he (.slice (some ⟨b2,o2,none⟩) m d),
 he (.int .i64 (k:Int)),
 he (.pointer (some ⟨b2,(o2+k*2),none⟩)),
 he (.pointer (some ⟨b2,((o2+k*2)+1),none⟩)),
 he (.slice a2 n2 c2),
 hp (fun v wx=>v = .bool false),
 he (.bool true),
 he (.bool true)]
             (by kernel_rfl) (fun _ _ e h=>h.trans e) ((Ext.refl wr).drew) ⟨trivial,trivial,trivial,trivial,trivial,trivial,trivial,trivial,trivial,trivial,trivial,trivial,trivial,trivial,trivial,trivial,trivial,trivial,trivial,trivial,trivial,trivial,trivial,trivial,trivial,trivial,fun v w w' e h=>h,trivial,trivial,trivial⟩ ⟨?o0, ?o1, ?o2, ?o3, ?o4, ?o5, ?o6, ?o7, ?o8, ?o9, ?o10, ?o11, ?o12, ?o13, ?o14, ?o15, ?o16, ?o17, ?o18, ?o19, ?o20, ?o21, ?o22, ?o23, ?o24, ?o25, ?o26, ?o27, ?o28,trivial⟩ ?fin
            case o0 =>
             refine obl_pq rfl fun ρ wx hC hcst h => ?_
             have e0:ρ (.tmp 2)=(.pointer (some ⟨w.heap.size,0,none⟩)):=h.1
             obtain ⟨k0,k1,k2,k3,k4,k5⟩:=(HF2 wx hC).out
             go_simp
            case o1 =>
             refine obl_pq rfl fun ρ wx hC hcst h => ?_
             have e0:ρ (.tmp 27)=(.pointer (some ⟨w.heap.size,1,none⟩)):=h.1
             obtain ⟨k0,k1,k2,k3,k4,k5⟩:=(HF2 wx hC).out
             go_simp
            case o2=>exact obl_pmove rfl (.inl rfl) (fun _ _ _ h=>h.1)
            case o3 =>
             refine obl_pq rfl fun ρ wx hC hcst h => ?_
             have e0:ρ (.tmp 28)=(.slice (some ⟨b1,o1,none⟩) n c):=h.1
             have e1:ρ (.tmp 29)=(.int .i64 (k:Int)):=h.2.1
             obtain ⟨k0,k1,k2,k3,k4,k5⟩:=(HF2 wx hC).out
             go_simp
             try (first | (intros; omega) | exact IntWalk.i64_in _ (by omega))
            case o4 =>
             refine obl_pq rfl fun ρ wx hC hcst h => ?_
             have e0:ρ (.tmp 30)=(.pointer (some ⟨b1,(o1+k*2),none⟩)):=h.1
             obtain ⟨k0,k1,k2,k3,k4,k5⟩:=(HF2 wx hC).out
             go_simp
            case o5 =>
             refine obl_pq rfl fun ρ wx hC hcst h => ?_
             have e0:ρ (.tmp 31)=(.pointer (some ⟨b1,(o1+k*2),none⟩)):=h.1
             obtain ⟨k0,k1,k2,k3,k4,k5⟩:=(HF2 wx hC).out
             go_simp
            case o6 =>
             refine obl_pq rfl fun ρ wx hC hcst h => ?_
             have e0:ρ (.tmp 3)=(.pointer (some ⟨(w.heap.size+1),0,none⟩)):=h.1
             obtain ⟨k0,k1,k2,k3,k4,k5⟩:=(HF2 wx hC).out
             go_simp
            case o7 =>
             refine obl_pq rfl fun ρ wx hC hcst h => ?_
             have e0:ρ (.tmp 33)=(.pointer (some ⟨(w.heap.size+1),1,none⟩)):=h.1
             obtain ⟨k0,k1,k2,k3,k4,k5⟩:=(HF2 wx hC).out
             go_simp
            case o8=>exact obl_pmove rfl (.inl rfl) (fun _ _ _ h=>h.1)
            case o9 =>
             refine obl_pq rfl fun ρ wx hC hcst h => ?_
             have e0:ρ (.tmp 34)=(.slice (some ⟨b2,o2,none⟩) m d):=h.1
             have e1:ρ (.tmp 35)=(.int .i64 (k:Int)):=h.2.1
             obtain ⟨k0,k1,k2,k3,k4,k5⟩:=(HF2 wx hC).out
             go_simp
             try (first | (intros; omega) | exact IntWalk.i64_in _ (by omega))
            case o10 =>
             refine obl_pq rfl fun ρ wx hC hcst h => ?_
             have e0:ρ (.tmp 36)=(.pointer (some ⟨b2,(o2+k*2),none⟩)):=h.1
             obtain ⟨k0,k1,k2,k3,k4,k5⟩:=(HF2 wx hC).out
             go_simp
            case o11 =>
             refine obl_pq rfl fun ρ wx hC hcst h => ?_
             have e0:ρ (.tmp 37)=(.pointer (some ⟨b2,(o2+k*2),none⟩)):=h.1
             obtain ⟨k0,k1,k2,k3,k4,k5⟩:=(HF2 wx hC).out
             go_simp
            case o12 =>
             refine obl_pq rfl fun ρ wx hC hcst h => ?_
             have e0:ρ (.tmp 32)=(.string s1):=h.1
             have e1:ρ (.tmp 38)=(.string s2):=h.2.1
             obtain ⟨k0,k1,k2,k3,k4,k5⟩:=(HF2 wx hC).out
             go_simp
             try (first | (intros; omega) | exact IntWalk.i64_in _ (by omega))
            case o13=>exact obl_pmove rfl (.inl rfl) (fun _ _ _ h=>h.1)
            case o14 =>
             refine obl_pq rfl fun ρ wx hC hcst h => ?_
             have e0:ρ (.tmp 2)=(.pointer (some ⟨w.heap.size,0,none⟩)):=h.1
             obtain ⟨k0,k1,k2,k3,k4,k5⟩:=(HF2 wx hC).out
             go_simp
            case o15 =>
             refine obl_pq rfl fun ρ wx hC hcst h => ?_
             have e0:ρ (.tmp 41)=(.pointer (some ⟨w.heap.size,1,none⟩)):=h.1
             obtain ⟨k0,k1,k2,k3,k4,k5⟩:=(HF2 wx hC).out
             go_simp
            case o16=>exact obl_pmove rfl (.inl rfl) (fun _ _ _ h=>h.1)
            case o17 =>
             refine obl_pq rfl fun ρ wx hC hcst h => ?_
             have e0:ρ (.tmp 42)=(.slice (some ⟨b1,o1,none⟩) n c):=h.1
             have e1:ρ (.tmp 43)=(.int .i64 (k:Int)):=h.2.1
             obtain ⟨k0,k1,k2,k3,k4,k5⟩:=(HF2 wx hC).out
             go_simp
             try (first | (intros; omega) | exact IntWalk.i64_in _ (by omega))
            case o18 =>
             refine obl_pq rfl fun ρ wx hC hcst h => ?_
             have e0:ρ (.tmp 44)=(.pointer (some ⟨b1,(o1+k*2),none⟩)):=h.1
             obtain ⟨k0,k1,k2,k3,k4,k5⟩:=(HF2 wx hC).out
             go_simp
            case o19 =>
             refine obl_pq rfl fun ρ wx hC hcst h => ?_
             have e0:ρ (.tmp 45)=(.pointer (some ⟨b1,((o1+k*2)+1),none⟩)):=h.1
             obtain ⟨k0,k1,k2,k3,k4,k5⟩:=(HF2 wx hC).out
             go_simp
            case o20 =>
             refine obl_pq rfl fun ρ wx hC hcst h => ?_
             have e0:ρ (.tmp 3)=(.pointer (some ⟨(w.heap.size+1),0,none⟩)):=h.1
             obtain ⟨k0,k1,k2,k3,k4,k5⟩:=(HF2 wx hC).out
             go_simp
            case o21 =>
             refine obl_pq rfl fun ρ wx hC hcst h => ?_
             have e0:ρ (.tmp 47)=(.pointer (some ⟨(w.heap.size+1),1,none⟩)):=h.1
             obtain ⟨k0,k1,k2,k3,k4,k5⟩:=(HF2 wx hC).out
             go_simp
            case o22=>exact obl_pmove rfl (.inl rfl) (fun _ _ _ h=>h.1)
            case o23 =>
             refine obl_pq rfl fun ρ wx hC hcst h => ?_
             have e0:ρ (.tmp 48)=(.slice (some ⟨b2,o2,none⟩) m d):=h.1
             have e1:ρ (.tmp 49)=(.int .i64 (k:Int)):=h.2.1
             obtain ⟨k0,k1,k2,k3,k4,k5⟩:=(HF2 wx hC).out
             go_simp
             try (first | (intros; omega) | exact IntWalk.i64_in _ (by omega))
            case o24 =>
             refine obl_pq rfl fun ρ wx hC hcst h => ?_
             have e0:ρ (.tmp 50)=(.pointer (some ⟨b2,(o2+k*2),none⟩)):=h.1
             obtain ⟨k0,k1,k2,k3,k4,k5⟩:=(HF2 wx hC).out
             go_simp
            case o25 =>
             refine obl_pq rfl fun ρ wx hC hcst h => ?_
             have e0:ρ (.tmp 51)=(.pointer (some ⟨b2,((o2+k*2)+1),none⟩)):=h.1
             obtain ⟨k0,k1,k2,k3,k4,k5⟩:=(HF2 wx hC).out
             go_simp
            case o26 =>
             refine obl_cq rfl fun ρ wx hC hcst hfn h => ?_
             have e1:ρ (.tmp 46)=(.slice a1 n1 c1):=h.2.1
             have e2:ρ (.tmp 52)=(.slice a2 n2 c2):=h.2.2.1
             obtain ⟨k0,k1,k2,k3,k4,k5⟩:=(HF2 wx hC).out
             refine ⟨33,#[.slice a1 n1 c1, .slice a2 n2 c2],by go_simp,((HIN wx hC).out).mono ?_⟩
             rintro e w' ⟨rfl,hE'⟩
             exact ⟨_,rfl,hE'.ext,rfl⟩
            case o27 =>
             refine obl_pq rfl fun ρ wx hC hcst h => ?_
             obtain ⟨v0,e0,rfl⟩:=h.1
             obtain ⟨k0,k1,k2,k3,k4,k5⟩:=(HF2 wx hC).out
             go_simp
            case o28 =>
             refine obl_pq rfl fun ρ wx hC hcst h => ?_
             have e0:ρ (.tmp 40)=(.bool false):=h.1
             have e2:ρ (.tmp 54)=(.bool true):=h.2.2.1
             obtain ⟨k0,k1,k2,k3,k4,k5⟩:=(HF2 wx hC).out
             go_simp
            case fin =>
             intro wx hC
             rintro _ rfl
             change wpList _ _ _ _ _ _
             simp only [List.length_cons,List.length_nil,List.drop_succ_cons,List.drop_zero,Act.put,List.setIfInBounds_toArray,List.set_cons_succ,List.set_cons_zero]
             go_wp2
             go_ret
             exact ⟨by rw [HNE.out]; rfl,hE.trans hC⟩
        · have hstb:(s1.toList != s2.toList)=true:=bne_iff_ne.2 hse
          have HNE:Hid (r=false):=qh (HNX.out (Or.inl (by
           rw [HST.out.1,HST.out.2]
           unfold strL
           intro h
           apply hse
           rw [ByteArray.toList_eq,ByteArray.toList_eq]
           exact h)))
          have HF3:=fun (wx:World) (hC:Ext wr wx)=>qh (And.intro (hC.cell q01) (And.intro (hC.cell q11) (And.intro (hC.cell x0) (And.intro (hC.cell x1) (And.intro (hC.cell y0) (hC.cell y1))))))
          refine wp_region_typed (by kernel_rfl) (fun wx=>Ext wr wx)
           [he (.pointer (some ⟨w.heap.size,1,none⟩)),
 he (.slice (some ⟨b1,o1,none⟩) n c),
 he (.int .i64 (k:Int)),
 he (.pointer (some ⟨b1,(o1+k*2),none⟩)),
 he (.pointer (some ⟨b1,(o1+k*2),none⟩)),
 he (.string s1),
 he (.pointer (some ⟨(w.heap.size+1),1,none⟩)),
 he (.slice (some ⟨b2,o2,none⟩) m d),
 he (.int .i64 (k:Int)),
 he (.pointer (some ⟨b2,(o2+k*2),none⟩)),
 he (.pointer (some ⟨b2,(o2+k*2),none⟩)),
 he (.string s2),
 he (.bool true),
 he (.bool true),
 he undef,
 he undef,
 he undef,
 he undef,
 he undef,
 he undef,
 he undef,
 he undef,
 he undef,
 he undef,
 he undef,
 he undef,
 he undef,
 he undef,
 he (.bool true)]
           (by kernel_rfl) (fun _ _ e h=>h.trans e) ((Ext.refl wr).drew) ⟨trivial,trivial,trivial,trivial,trivial,trivial,trivial,trivial,trivial,trivial,trivial,trivial,trivial,trivial,trivial,trivial,trivial,trivial,trivial,trivial,trivial,trivial,trivial,trivial,trivial,trivial,trivial,trivial,trivial,trivial⟩ ⟨?o0, ?o1, ?o2, ?o3, ?o4, ?o5, ?o6, ?o7, ?o8, ?o9, ?o10, ?o11, ?o12, ?o13, ?o14, ?o15, ?o16, ?o17, ?o18, ?o19, ?o20, ?o21, ?o22, ?o23, ?o24, ?o25, ?o26, ?o27, ?o28,trivial⟩ ?fin
          case o0 =>
           refine obl_pq rfl fun ρ wx hC hcst h => ?_
           have e0:ρ (.tmp 2)=(.pointer (some ⟨w.heap.size,0,none⟩)):=h.1
           obtain ⟨k0,k1,k2,k3,k4,k5⟩:=(HF3 wx hC).out
           go_simp
          case o1 =>
           refine obl_pq rfl fun ρ wx hC hcst h => ?_
           have e0:ρ (.tmp 27)=(.pointer (some ⟨w.heap.size,1,none⟩)):=h.1
           obtain ⟨k0,k1,k2,k3,k4,k5⟩:=(HF3 wx hC).out
           go_simp
          case o2=>exact obl_pmove rfl (.inl rfl) (fun _ _ _ h=>h.1)
          case o3 =>
           refine obl_pq rfl fun ρ wx hC hcst h => ?_
           have e0:ρ (.tmp 28)=(.slice (some ⟨b1,o1,none⟩) n c):=h.1
           have e1:ρ (.tmp 29)=(.int .i64 (k:Int)):=h.2.1
           obtain ⟨k0,k1,k2,k3,k4,k5⟩:=(HF3 wx hC).out
           go_simp
           try (first | (intros; omega) | exact IntWalk.i64_in _ (by omega))
          case o4 =>
           refine obl_pq rfl fun ρ wx hC hcst h => ?_
           have e0:ρ (.tmp 30)=(.pointer (some ⟨b1,(o1+k*2),none⟩)):=h.1
           obtain ⟨k0,k1,k2,k3,k4,k5⟩:=(HF3 wx hC).out
           go_simp
          case o5 =>
           refine obl_pq rfl fun ρ wx hC hcst h => ?_
           have e0:ρ (.tmp 31)=(.pointer (some ⟨b1,(o1+k*2),none⟩)):=h.1
           obtain ⟨k0,k1,k2,k3,k4,k5⟩:=(HF3 wx hC).out
           go_simp
          case o6 =>
           refine obl_pq rfl fun ρ wx hC hcst h => ?_
           have e0:ρ (.tmp 3)=(.pointer (some ⟨(w.heap.size+1),0,none⟩)):=h.1
           obtain ⟨k0,k1,k2,k3,k4,k5⟩:=(HF3 wx hC).out
           go_simp
          case o7 =>
           refine obl_pq rfl fun ρ wx hC hcst h => ?_
           have e0:ρ (.tmp 33)=(.pointer (some ⟨(w.heap.size+1),1,none⟩)):=h.1
           obtain ⟨k0,k1,k2,k3,k4,k5⟩:=(HF3 wx hC).out
           go_simp
          case o8=>exact obl_pmove rfl (.inl rfl) (fun _ _ _ h=>h.1)
          case o9 =>
           refine obl_pq rfl fun ρ wx hC hcst h => ?_
           have e0:ρ (.tmp 34)=(.slice (some ⟨b2,o2,none⟩) m d):=h.1
           have e1:ρ (.tmp 35)=(.int .i64 (k:Int)):=h.2.1
           obtain ⟨k0,k1,k2,k3,k4,k5⟩:=(HF3 wx hC).out
           go_simp
           try (first | (intros; omega) | exact IntWalk.i64_in _ (by omega))
          case o10 =>
           refine obl_pq rfl fun ρ wx hC hcst h => ?_
           have e0:ρ (.tmp 36)=(.pointer (some ⟨b2,(o2+k*2),none⟩)):=h.1
           obtain ⟨k0,k1,k2,k3,k4,k5⟩:=(HF3 wx hC).out
           go_simp
          case o11 =>
           refine obl_pq rfl fun ρ wx hC hcst h => ?_
           have e0:ρ (.tmp 37)=(.pointer (some ⟨b2,(o2+k*2),none⟩)):=h.1
           obtain ⟨k0,k1,k2,k3,k4,k5⟩:=(HF3 wx hC).out
           go_simp
          case o12 =>
           refine obl_pq rfl fun ρ wx hC hcst h => ?_
           have e0:ρ (.tmp 32)=(.string s1):=h.1
           have e1:ρ (.tmp 38)=(.string s2):=h.2.1
           obtain ⟨k0,k1,k2,k3,k4,k5⟩:=(HF3 wx hC).out
           go_simp
           try (first | (intros; omega) | exact IntWalk.i64_in _ (by omega))
          case o13=>exact obl_pmove rfl (.inl rfl) (fun _ _ _ h=>h.1)
          case o14=>exact obl_none rfl
          case o15=>exact obl_none rfl
          case o16=>exact obl_none rfl
          case o17=>exact obl_none rfl
          case o18=>exact obl_none rfl
          case o19=>exact obl_none rfl
          case o20=>exact obl_none rfl
          case o21=>exact obl_none rfl
          case o22=>exact obl_none rfl
          case o23=>exact obl_none rfl
          case o24=>exact obl_none rfl
          case o25=>exact obl_none rfl
          case o26=>exact obl_none rfl
          case o27=>exact obl_none rfl
          case o28 =>
           refine obl_pq rfl fun ρ wx hC hcst h => ?_
           have e0:ρ (.tmp 40)=(.bool true):=h.1
           have e2:ρ (.tmp 54)=undef:=h.2.2.1
           obtain ⟨k0,k1,k2,k3,k4,k5⟩:=(HF3 wx hC).out
           go_simp
          case fin =>
           intro wx hC
           change wpList _ _ _ _ _ _
           simp only [List.length_cons,List.length_nil,List.drop_succ_cons,List.drop_zero,Act.put,List.setIfInBounds_toArray,List.set_cons_succ,List.set_cons_zero]
           go_wp2
           go_ret
           exact ⟨by rw [HNE.out]; rfl,hE.trans hC⟩
      · have HEQ:Hid (r=true):=qh (by
         rw [←HR.out]
         apply decide_eq_true
         refine ⟨by trivial, ?_⟩
         have h1:=HP.out
         have h2:=HL.out
         rwa [List.take_of_length_le (by have:=HLX.out; omega),List.take_of_length_le (by have:=HLY.out; omega)] at h1)
        go_wp2
        go_ret
        exact ⟨by rw [HEQ.out]; rfl,hE⟩
   · have hne:((n:Int) != (m:Int))=true:=by simp; omega
     have HNE:Hid (r=false):=qh (by
      rw [←HR.out]
      apply decide_eq_false
      rintro ⟨_,rfl⟩
      exact hl (HLX.out.symm.trans HLY.out))
     clear hl
     go_wp2
     go_ret
     exact ⟨by rw [HNE.out]; rfl,hE0⟩
 · have hvv:(va != vb)=true:=by simpa using hv
   have HNE:Hid (r=false):=qh (by
    rw [←HR.out]
    apply decide_eq_false
    rintro ⟨h,_⟩
    exact hv h)
   clear hv
   go_wp2
   go_ret
   exact ⟨by rw [HNE.out]; rfl,hE0⟩
def smallP (ts:List Tx) (nt d:Nat):Prop:=ts.length≤nt∧∀ t∈ts,t.1.length≤d∧t.2.length≤12
instance (ts:List Tx) (nt d:Nat):Decidable (smallP ts nt d):=inferInstanceAs (Decidable (_∧_))
theorem keep_SmallPoly {va:Int} {a:Option Addr} {n c nt d:Nat} {ts:List Tx} {w:World} (hx:TmSl w a n c ts) :
 Calls Tryz.prog 15 #[.agg #[.int .i64 va, .slice a n c], .int .i64 nt, .int .i64 d] w fun e w'=>e = .returned (.bool (decide (smallP ts nt d)))∧Ext w w':=by
 have hlx:=hx.len
 obtain ⟨rx,hX,_,hqx⟩:=hx
 have HQX:=qh hqx
 have HLX:=qh hlx
 clear hqx hlx
 have hmn:=hX.le
 go_enter Tryz.func15,Tryz.ntmps15
 go_upto_region 1 with (fail)
 refine box1 ?_
 intro w0 hE0 hB0 hz0
 have p00:w0.cell? ⟨w.heap.size,0,none⟩=some (.int .i64 va):=hB0.cell (i:=0) (by simp)
 have p01:w0.cell? ⟨w.heap.size,1,none⟩=some (.slice a n c):=hB0.cell (i:=1) (by simp)
 clear hB0 hz0
 by_cases hl:nt<n
 · have HNE:Hid (decide (smallP ts nt d)=false):=qh (by
    apply decide_eq_false
    rintro ⟨h,_⟩
    have:=HLX.out
    omega)
   have hli:(nt:Int)<(n:Int):=by omega
   clear hl
   go_wp2
   go_ret
   exact ⟨by rw [HNE.out]; rfl,hE0⟩
 · have hli:¬ (nt:Int)<(n:Int):=by omega
   go_wp2
   go_loopw [7] (fun i wr=>∃ k:Nat,k≤n∧i = .int .i64 k∧Ext w0 wr∧Hid (∀ i,i<k→(ts.getD i tm0).1.length≤d∧(ts.getD i tm0).2.length≤12)) (fun i _=>n-(intOf i).toNat)
   case atStart=>exact ⟨0,Nat.zero_le _,rfl,Ext.refl _,qh (fun i hi=>absurd hi (by omega))⟩
   case round =>
    obtain ⟨k,hk,rfl,hEr,HP⟩:=hrel
    have hE:=hE0.trans hEr
    have q01:=hEr.cell p01
    by_cases hlt:k<n
    · obtain ⟨b1,o1,rfl,hc1⟩:=(hX.ext hE).rd (by omega)
      obtain ⟨s1,a1,n1,c1,hr1,hs1,hx1⟩:=HQX.out k hlt
      have x0:=hc1 k hlt 0 (by omega)
      have x1:=hc1 k hlt 1 (by omega)
      rw [hr1] at x0 x1
      simp only [List.getD_cons_zero,List.getD_cons_succ,Nat.add_zero] at x0 x1
      have hln:=hx1.len
      have hsl:s1.size=(ts.getD k tm0).1.length:=by rw [←hs1,strL_len]
      have HST:Hid (s1.size=(ts.getD k tm0).1.length∧(ts.getD k tm0).2.length=n1):=qh ⟨hsl,hln⟩
      have HMM:Hid (ts.getD k tm0∈ts):=qh (by simp [List.getD_eq_getElem?_getD,HLX.out,hlt])
      clear hc1 hr1 hs1 hx1 hln hsl
      by_cases h1:d<s1.size
      · have h1':(d:Int)<(s1.size:Int):=by omega
        have HNE:Hid (decide (smallP ts nt d)=false):=qh (by
         apply decide_eq_false
         rintro ⟨_,h⟩
         have:=h _ HMM.out
         have:=HST.out
         omega)
        go_wp2
        go_ret
        exact ⟨by rw [HNE.out]; rfl,hE⟩
      · have h1':¬ (d:Int)<(s1.size:Int):=by omega
        by_cases h2:12<n1
        · have h2':(12:Int)<(n1:Int):=by omega
          have HNE:Hid (decide (smallP ts nt d)=false):=qh (by
           apply decide_eq_false
           rintro ⟨_,h⟩
           have:=h _ HMM.out
           have:=HST.out
           omega)
          go_wp2
          go_ret
          exact ⟨by rw [HNE.out]; rfl,hE⟩
        · have h2':¬ (12:Int)<(n1:Int):=by omega
          have HP2:Hid (∀ i,i<k+1→(ts.getD i tm0).1.length≤d∧(ts.getD i tm0).2.length≤12):=qh (fun i hi=>by
           by_cases e:i=k
           · subst e
             have:=HST.out
             omega
           · exact HP.out i (by omega))
          go_wp2
          go_roundw
          case rel=>exact ⟨k+1,by omega,by go_num,hEr,HP2⟩
          case measure=>simp [intOf]; omega
    · have HEQ:Hid (decide (smallP ts nt d)=true):=qh (by
       apply decide_eq_true
       refine ⟨by have:=HLX.out; omega,fun t ht => ?_⟩
       obtain ⟨i,hi,rfl⟩:=List.mem_iff_getElem.1 ht
       have:=HP.out i (by have:=HLX.out; omega)
       simpa [List.getD_eq_getElem?_getD,hi] using this)
      go_wp2
      go_ret
      exact ⟨by rw [HEQ.out]; rfl,hE⟩
end Go.Proofs.YtbiifaciddajnaaGreatDoor
namespace Go.Proofs.YtbiifaciddajnaaGreatDoor
open Go Go.RowKit
def tailOk7 (ops:Array Oper) (n:Nat) (i:Nat) (o:Oper):Bool :=
 (List.range n).all (fun j=>(anc ops 12 (preds o)).contains j) || (preds o).any (fun k=>n≤k && k<i)
def regionOk7 (ops:Array Oper) (cons:List (Option Nat)) (size:Nat):Bool :=
 let n:=cons.length
 decide (n≤ops.size) && (List.range ops.size).all (fun i=>match ops[i]? with | some o=>if i<n then headOk ops cons n size i o else tailOk7 ops n i o | none=>false) &&
 cons.all (fun k=>match k with | some k=>k<n | none=>true) &&
 Region.seqB .any ops (ops.size-n) n ((Array.range ops.size).map (fun j=>decide (j<n)))
section
variable {P:Program} {Q:Exit→Act→World→Prop}
theorem wpAny_typed7 {a:Act} {w:World} {l:List Oper} (C:World→Prop) (hs:List Hd)
 (hok:regionOk7 l.toArray (hs.map (·.cons)) a.tmps.size=true)
 (hCe:∀ w w',Ext w w'→C w→C w') (hC:C w.drew) (hst:stabs hs)
 (hobl:obls P C l.toArray hs a 0 l hs)
 (hend:∀ w',C w'→After w' (fun a'=>wpList P l.toArray Q (l.drop hs.length) a' w') l hs a):wpAny P .any l.toArray Q l.toArray.size (Array.replicate l.toArray.size false) a w.drew:=by
 unfold regionOk7 at hok
 simp only [Bool.and_eq_true,List.length_map,decide_eq_true_eq] at hok
 obtain ⟨⟨⟨hn,hall⟩,hcons⟩,hseq⟩:=hok
 have hsz:l.toArray.size=l.length:=by simp
 have hall':∀ i o,l.toArray[i]?=some o→(i<hs.length→HeadFacts l.toArray (hs.map (·.cons)) hs.length a.tmps.size i o)∧(hs.length≤i→tailOk7 l.toArray hs.length i o=true):=by
  intro i o ho
  have hi:i<l.toArray.size:=(Array.getElem?_eq_some_iff.1 ho).1
  have:=List.all_eq_true.1 hall i (by simpa using hi)
  rw [ho] at this
  simp only at this
  refine ⟨fun h => ?_,fun h => ?_⟩
  · rw [if_pos h] at this
    exact headOk_spec this
  · rw [if_neg (by omega)] at this
    exact this
 have key:∀ m listed a' w',unl listed hs.length=m→RInv l.toArray hs a C listed a' w'→wpAny P .any l.toArray Q (m+(l.toArray.size-hs.length)) listed a' w':=by
  intro m
  induction m with
  | zero =>
   intro listed a' w' hu inv
   have hheads:=unl_zero hu
   have hlist:listed=(Array.range l.toArray.size).map (fun j=>decide (j<hs.length)):=by
    apply Array.ext
    · rw [inv.size]; simp
    · intro i h1 h2
      simp only [Array.getElem_map,Array.getElem_range]
      by_cases hi:i<hs.length
      · have:=hheads i hi
        simp [h1] at this
        simp [this,hi]
      · have:=inv.tailF i (by omega)
        simp [h1] at this
        simp [this,hi]
   -- the frame
   have ha:a'=putAll (fun j=>match dstAt l.toArray j with | some d=>a'.tmps.getD d undef | none=>Classical.epsilon (fun v=>(hdAt hs j).ty.ok v w')) 0 l hs a:=by
    apply act_ext
    · rw [putAll_defers]; exact inv.defers
    · rw [putAll_size]; exact inv.tmps
    · intro t
      by_cases hex:∃ j o,j<hs.length∧l[j]?=some o∧o.dst=some t
      · obtain ⟨j,o,hj,ho,hd⟩:=hex
        have hoA:l.toArray[j]?=some o:=by simpa using ho
        have hf:=(hall' j o hoA).1 hj
        rw [putAll_own hs l 0 a j o hj ho hd (hf.dst t hd) (by
         intro k' o' hk' ho' hd'
         have hoA':l.toArray[k']?=some o':=by simpa using ho'
         by_cases hkj:k'=j
         · exact hkj
         · have:=hf.apart k' hk' hkj (by rw [dstAt_some hoA',hd',hd])
           rw [hd] at this
           cases this)]
        rw [Nat.zero_add,dstAt_some hoA,hd]
      · rw [putAll_other hs l 0 a (fun k o hk ho hd=>hex ⟨k,o,hk,ho,hd⟩)]
        refine inv.frame t fun j hj _ hd=>hex ?_
        unfold dstAt at hd
        cases ho:l.toArray[j]? with
        | none=>rw [ho] at hd; cases hd
        | some o=>rw [ho] at hd; exact ⟨j,o,hj,by simpa using ho,hd⟩
   have hfin:=after_inst (vs:=fun j=>match dstAt l.toArray j with | some d=>a'.tmps.getD d undef | none=>Classical.epsilon (fun v=>(hdAt hs j).ty.ok v w')) hs l 0 a (hend w' inv.world)
    (by
     intro k hk c hc
     rw [Nat.zero_add]
     cases hd:dstAt l.toArray k with
     | some d=>exact inv.values k c hk (hheads k hk) hc d hd
     | none =>
      have:(hdAt hs k).ty.ok (Classical.epsilon (fun v=>(hdAt hs k).ty.ok v w')) w':=by
       apply Classical.epsilon_spec (p:=fun v=>(hdAt hs k).ty.ok v w')
       refine ⟨c, ?_⟩
       rw [show (hdAt hs k).ty = .eq c from hc]
       rfl
      have h2:(hdAt hs k).ty = .eq c:=hc
      rw [h2] at this
      simp only [Ty.ok] at this
      rw [h2]
      exact this)
    (by
     intro k hk p hp hc
     rw [Nat.zero_add]
     obtain ⟨v,hv,hvd⟩:=inv.facts k hk (hheads k hk) (by
      intro k' hck
      have h1:(hdAt hs k).cons=none:=hc
      rw [h1] at hck
      cases hck)
     have h2:(hdAt hs k).ty = .pr p:=hp
     cases hd:dstAt l.toArray k with
     | some d =>
      simp only
      rw [hvd d hd]
      rw [h2] at hv
      exact hv
     | none =>
      have:(hdAt hs k).ty.ok (Classical.epsilon (fun v=>(hdAt hs k).ty.ok v w')) w':=Classical.epsilon_spec (p:=fun v=>(hdAt hs k).ty.ok v w') ⟨v,hv⟩
      simp only
      rw [h2] at this ⊢
      exact this)
   rw [←ha] at hfin
   rw [Nat.zero_add]
   have hl:(l.drop hs.length).length=l.toArray.size-hs.length:=by simp
   rw [←hl]
   rw [←hl,←hlist] at hseq
   exact wpAny_of_seq (l.drop hs.length) hs.length listed a' w' (by intro j; simp) hseq hfin
  | succ m ih =>
   intro listed a' w' hu inv
   rw [show m+1+(l.toArray.size-hs.length)=(m+(l.toArray.size-hs.length))+1 by omega]
   refine ⟨fun hempty => ?_,fun i hi => ?_⟩
   · obtain ⟨j,hj,hjf,hjk⟩:=unl_pos (listed:=listed) (n:=hs.length) (by omega)
     have hjl:j<l.toArray.size:=by omega
     have ho:l.toArray[j]?=some l.toArray[j]:=Array.getElem?_eq_getElem hjl
     have hf:=(hall' j _ ho).1 hj
     have:j∈Region.ready .any l.toArray listed:=ready_of (by
      have:j<listed.size:=by rw [inv.size]; exact hjl
      simpa [this] using hjf) ho (fun p hp=>hjk p (hf.lt p hp))
     rw [hempty] at this
     cases this
   · obtain ⟨h0,o,ho,hpr⟩:=ready_spec hi
     have hil:i<listed.size:=by rw [inv.size]; exact (Array.getElem?_eq_some_iff.1 ho).1
     have hif:listed.getD i false=false:=by simpa [hil] using h0
     have hin:i<hs.length:=by
      rcases Nat.lt_or_ge i hs.length with h|h
      · exact h
      · exfalso
        have ht:=(hall' i o ho).2 h
        unfold tailOk7 at ht
        simp only [Bool.or_eq_true,List.all_eq_true,List.mem_range,List.contains_iff_mem,List.any_eq_true,Bool.and_eq_true,decide_eq_true_eq] at ht
        rcases ht with ht|⟨k,hk,hk1,_⟩
        · obtain ⟨j,hj,hjf,_⟩:=unl_pos (listed:=listed) (n:=hs.length) (by omega)
          rw [anc_listed inv.closed 12 (preds o) hpr j (ht j hj)] at hjf
          cases hjf
        · have:=hpr k hk
          rw [inv.tailF k hk1] at this
          cases this
     refine step_inv (by simpa using hobl) hst hCe inv hi hin (fun o' ho'=>(hall' i o' ho').1 hin) fun a2 w2 inv2 => ?_
     refine ih _ a2 w2 ?_ inv2
     have:=unl_set hil hif hin
     omega
 have hstart:RInv l.toArray hs a C (Array.replicate l.toArray.size false) a w.drew:=by
  have hf:∀ j,(Array.replicate l.toArray.size false).getD j false=false:=fun j=>getD_replicate_false _ j
  refine ⟨by simp,fun j _=>hf j,(fun j h=>by rw [hf j] at h; cases h),hC,rfl,rfl,fun _ _=>rfl,(fun j _ h=>by rw [hf j] at h; cases h),(fun j c _ h=>by rw [hf j] at h; cases h)⟩
 have hcount:unl (Array.replicate l.toArray.size false) hs.length=hs.length:=by
  have:∀ n,unl (Array.replicate l.toArray.size false) n=n:=by
   intro n
   induction n with
   | zero=>rfl
   | succ n ih=>rw [unl,ih,getD_replicate_false]; simp
  exact this _
 have:=key hs.length _ a w.drew hcount hstart
 rwa [show hs.length+(l.toArray.size-hs.length)=l.toArray.size by omega] at this
theorem wp_region_typed7 {id:Nat} {a:Act} {w:World} {l:List Oper} (hm:P.follows .mixedOrders=true) (C:World→Prop) (hs:List Hd)
 (hok:regionOk7 l.toArray (hs.map (·.cons)) a.tmps.size=true)
 (hCe:∀ w w',Ext w w'→C w→C w') (hC:C w.drew) (hst:stabs hs)
 (hobl:obls P C l.toArray hs a 0 l hs)
 (hend:∀ w',C w'→After w' (fun a'=>wpList P l.toArray Q (l.drop hs.length) a' w') l hs a):(Code.region id l.toArray true).wp P Q a w :=
 wp_region_any hm (wpAny_typed7 C hs hok hCe hC hst hobl hend)
end
end Go.Proofs.YtbiifaciddajnaaGreatDoor
