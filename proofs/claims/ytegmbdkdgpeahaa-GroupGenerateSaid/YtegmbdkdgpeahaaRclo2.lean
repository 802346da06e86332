/- The walk of the reference's Closure. -/
import Derived.Test.YtegmbdkdgpeahaaRclo
namespace Go.Proofs.Ytegmbdkdgpeahaa
open Go Go.RowKit

/-- the state of Closure's loop: the list in order, and the stack -/
structure RcS (w wr : World) (L q : List (List Int)) (ao : Option Addr) (no co : Nat) (oc : List Value) (aq : Option Addr) (nq cq : Nat) (qc : List Value) : Prop where
  ext : Ext w wr
  lo : no = L.length
  lq : nq = q.length
  own : Own wr w.heap.size 22 ao no co oc
  els : QEl wr w.heap.size oc L
  ownq : Own wr w.heap.size 22 aq nq cq qc
  elsq : QEl wr w.heap.size qc q
  apart : blk ao = none ∨ blk ao ≠ blk aq
  sort : sortS L

set_option maxHeartbeats 1000000 in
theorem ref_Closure {n : Nat} {ag : Option Addr} {ng cg : Nat} {gs : List (List Int)} {w : World} (hg : SlL w ag ng cg gs) (hn : n ≤ 6) (hp : PermsN gs n) :
    Calls Try.prog 36 #[.int .i64 n, .slice ag ng cg] w (fun e w' => ∃ ps, RetS w ps e w' ∧ sortS ps ∧ ∀ p, p ∈ ps ↔ Reach gs n p) := by
  have HG := Lib.hid hg.len
  have HP := Lib.hid hp
  have hng := hg.le
  clear hp
  go_enter Try.func36, Try.ntmps36
  go_wp2_with fail
  refine (ref_Unit (by omega)).mono ?_
  rintro e w1 ⟨a1, n1, c1, rfl, hE1, hO1⟩
  have hS1 : Ext w1 (w1.alloc (.cells #[.slice a1 n1 c1] 22)) := (Ext.refl w1).alloc _
  have hL1 := own_alloc w1 w.heap.size 22 #[.slice a1 n1 c1] 1 rfl hE1.size (by omega)
  go_wp2_with fail
  refine (ref_Unit (by omega)).mono ?_
  rintro e w2 ⟨a2, n2, c2, rfl, hE2, hO2⟩
  have hS2 : Ext w2 (w2.alloc (.cells #[.slice a2 n2 c2] 22)) := (Ext.refl w2).alloc _
  have hL2 := own_alloc w2 w.heap.size 22 #[.slice a2 n2 c2] 1 rfl ((hE1.trans hS1).trans hE2).size (by omega)
  have hst : ∃ ao no co oc aq nq cq qc, Value.slice (some ⟨w1.heap.size, 0, none⟩) 1 1 = .slice ao no co ∧ Value.slice (some ⟨w2.heap.size, 0, none⟩) 1 1 = .slice aq nq cq ∧ RcS w (w2.alloc (.cells #[.slice a2 n2 c2] 22)) [idn n] [idn n] ao no co oc aq nq cq qc := by
    refine ⟨_, _, _, [.slice a1 n1 c1], _, _, _, [.slice a2 n2 c2], rfl, rfl, ⟨((hE1.trans hS1).trans hE2).trans hS2, rfl, rfl, (hL1.ext hE2).ext hS2, ?_, hL2, ?_, ?_, ?_⟩⟩
    · intro i hi
      have : i = 0 := by simpa using hi
      subst this
      exact ⟨a1, n1, c1, rfl, ((hO1.ext hS1).ext hE2).ext hS2⟩
    · intro i hi
      have : i = 0 := by simpa using hi
      subst this
      refine ⟨a2, n2, c2, rfl, OwnI.ext (Own.mono hO2 ?_) hS2⟩
      exact (hE1.trans hS1).size
    · right
      have h1 := hE2.size
      simp at h1
      simp [blk]
      omega
    · intro i j h1 h2
      simp at h2
      omega
  clear hO1 hO2 hL1 hL2 hS1 hS2 hE1 hE2
  go_wp2_with fail
  go_loopw [5, 6] (fun v u wr => ∃ L q ao no co oc aq nq cq qc, v = .slice ao no co ∧ u = .slice aq nq cq ∧ RcS w wr L q ao no co oc aq nq cq qc ∧ ClInv gs n L q) (fun v u _ => 2 * (720 - lenV v) + lenV u)
  case atStart =>
    obtain ⟨ao, no, co, oc, aq, nq, cq, qc, e1, e2, h⟩ := hst
    exact ⟨_, _, ao, no, co, oc, aq, nq, cq, qc, e1, e2, h, ClInv.start gs n⟩
  case round =>
    clear hst
    obtain ⟨L, q, ao, no, co, oc, aq, nq, cq, qc, rfl, rfl, hR, hI⟩ := hrel
    have HNO := Lib.hid hR.lo
    have HNQ := Lib.hid hR.lq
    have hb := reach_bound hn HP.out hI.nodup hI.reach
    by_cases hz : 0 < nq
    · obtain ⟨m, hm⟩ : ∃ m, nq = m + 1 := ⟨nq - 1, by omega⟩
      subst hm
      have hm6 : m ≤ 720 := by have := hI.short; have h2 := HNQ.out; omega
      obtain ⟨gq, hgq, hgb, _⟩ := hR.ownq.place (by omega)
      subst hgq
      have hcq := Own.cellAt hR.ownq (j := m) (by omega)
      obtain ⟨ap, np, cp, hqc, hOp⟩ := hR.elsq m (by rw [← HNQ.out]; omega)
      rw [hqc] at hcq
      have hcap := Own.cap hR.ownq
      have em : ((m : Int) + 1 - 1) = (m : Int) := by omega
      go_wp2_with (refine wl_cutTo (k := m) rfl rfl Try.underlying35 info_ints rfl rfl hR.ownq (by omega) (by omega) ?_; intro hOq)
      have hpq : (q.getD m [] :: q.take m).Perm q := by
        have hl : q.length = m + 1 := HNQ.out.symm
        have e : q = q.take m ++ [q.getD m []] := by
          rw [List.getD_eq_getElem?_getD, List.getElem?_eq_getElem (by omega), Option.getD_some]
          conv => lhs; rw [← List.take_of_length_le (Nat.le_of_eq hl), List.take_succ_eq_append_getElem (by omega)]
        conv => rhs; rw [e]
        exact List.perm_append_comm (l₁ := [q.getD m []])
      have hI0 := ClIn.start (hI.perm (List.Perm.refl L) hpq)
      have hR0 : RcS w wr L (q.take m) ao no co oc (some ⟨gq, 0, none⟩) m cq (qc.take m) :=
        ⟨hR.ext, hR.lo, by have := HNQ.out; simp; omega, hR.own, hR.els, hOq, hR.elsq.upto m, hR.apart, hR.sort⟩
      have HM : Hid (2 * (720 - lenV (.slice ao no co)) + lenV (.slice (some ⟨gq, 0, none⟩) (m + 1) cq) = 2 * (720 - L.length) + m + 1) := by
        show _ = _
        simp only [lenV]
        rw [HNO.out]
        omega
      have hql : (q.take m).length = m := by have := HNQ.out; simp; omega
      have HQL := Lib.hid hql
      clear hql hpq hI hR hOq hcq hqc hcap em HNQ
      generalize q.getD m [] = pp at *
      generalize q.take m = q0 at *
      obtain ⟨wo, rfl⟩ : ∃ wo : World, wo = wr := ⟨_, rfl⟩
      go_loopw [5, 6, 8] (fun v u i wr => ∃ L1 q1 ao no co oc aq nq cq qc, ∃ j : Nat, v = .slice ao no co ∧ u = .slice aq nq cq ∧ i = .int .i64 j ∧ j ≤ ng ∧ RcS w wr L1 q1 ao no co oc aq nq cq qc ∧ ClIn gs n L1 q1 pp j ∧ OwnI wr w.heap.size ap np cp pp ∧
        Hid (2 * (720 - L1.length) + q1.length ≤ 2 * (720 - L.length) + m)) (fun _ _ i _ => ng - (intOf i).toNat)
      case atStart => exact ⟨L, q0, ao, no, co, oc, _, _, _, _, 0, rfl, rfl, rfl, Nat.zero_le _, hR0, hI0, hOp, Lib.hid (by rw [HQL.out]; exact Nat.le_refl _)⟩
      case round =>
        clear hR0 hI0 hOp HQL
        obtain ⟨L1, q1, ao1, no1, co1, oc1, aq1, nq1, cq1, qc1, j, rfl, rfl, rfl, hj, hR, hI, hOp, HM1⟩ := hrel
        have HNO1 := Lib.hid hR.lo
        have HNQ1 := Lib.hid hR.lq
        have hb1 := reach_bound hn HP.out hI.nodup hI.reach
        by_cases hjlt : j < ng
        · have hgw := hg.ext hR.ext
          obtain ⟨bg, og, ag1, ng1, cg1, rfl, hcg, hSg⟩ := hgw.at hjlt
          have hjg : j < gs.length := by rw [HG.out]; exact hjlt
          have hgm : gs.getD j [] ∈ gs := by simp [List.getD_eq_getElem?_getD, hjg]
          obtain ⟨pg1, pg2⟩ := HP.out _ hgm
          obtain ⟨pp1, pp2⟩ := reach_perm hn HP.out (hI.reach pp hI.mem)
          have hOld := hI.old hjg
          have hNew := hI.new hjg
          generalize hgj : gs.getD j [] = gj at *
          have hng1 : ng1 = n := by have := hSg.len; omega
          have hnp : np = n := by have := hOp.sl.len; omega
          subst hng1
          subst hnp
          have HOLD := Lib.hid hOld
          have HNEW := Lib.hid hNew
          have PP2 := Lib.hid pp2
          clear hOld hNew hgj pg2 pp2
          have hno6 : no1 ≤ 720 := by rw [HNO1.out]; exact hb1
          have hnq6 : nq1 ≤ 720 := by have := hI.short; have h2 := HNQ1.out; omega
          go_wp2_with fail
          refine (ref_Product hSg hOp.sl ?_ (by omega)).mono ?_
          · intro i hi
            have := perm_at pp1 (i := i) (by rw [PP2.out]; exact hi)
            rw [PP2.out] at this
            exact this
          rintro e w3 ⟨a3, n3, c3, rfl, hE3, hO3⟩
          have hOut := slL_of HNO1.out (hR.own.ext hE3) (hR.els.ext hE3)
          go_wp2_with fail
          refine (ref_place hOut hO3.sl hR.sort (by omega)).mono ?_
          rintro e w4 ⟨k, rfl, hQ4, hkn, hpl⟩
          have hE4 := hE3.trans hQ4.ext
          have HPL := Lib.hid hpl
          clear hpl hOut
          have hO4 : OwnI w4 w.heap.size a3 n3 c3 (comp gj pp) := Own.mono (Own.ext hO3 hQ4.ext) hR.ext.size
          have hOp4 := hOp.ext hE4
          clear hO3 hQ4
          by_cases hmem : comp gj pp ∈ L1
          · have hd : decide (comp gj pp ∈ L1) = true := by simp [hmem]
            rw [hd]
            go_wp2
            go_roundw
            case rel => exact ⟨L1, q1, ao1, no1, co1, oc1, aq1, nq1, cq1, qc1, j + 1, rfl, rfl, by go_num, by omega, ⟨hR.ext.trans hE4, hR.lo, hR.lq, hR.own.ext hE4, hR.els.ext hE4, hR.ownq.ext hE4, hR.elsq.ext hE4, hR.apart, hR.sort⟩, HOLD.out hmem, hOp4, HM1⟩
            case measure => simp [intOf]; omega
          · have hd : decide (comp gj pp ∈ L1) = false := by simp [hmem]
            rw [hd]
            have hs := insL_sort (by rw [← HNO1.out]; exact hkn) hR.sort HPL.out hmem
            have HSO := Lib.hid hs
            clear hs
            have hR4 : RcS w w4 L1 q1 ao1 no1 co1 oc1 aq1 nq1 cq1 qc1 := ⟨hR.ext.trans hE4, hR.lo, hR.lq, hR.own.ext hE4, hR.els.ext hE4, hR.ownq.ext hE4, hR.elsq.ext hE4, hR.apart, hR.sort⟩
            clear hR hE4 hE3
            have hkc : k ≤ co1 := by have := hR4.own.cap; omega
            have hsO := hR4.own.sl
            have hol := hR4.own.len
            have h1c := slices_one hR4.els (by rw [hol, HNO1.out])
            go_upto_region 12 with (fail)
            have hbase : ∀ wx, Ext w4 wx → w4.heap.size ≤ wx.heap.size := fun wx e => e.size
            refine wp_region_typed (by kernel_rfl) (fun wx => Ext w4 wx)
              [hu 4 (fun v wx => ∃ g, v = .slice (some ⟨g, 0, none⟩) 0 0 ∧ Own wx w4.heap.size 22 (some ⟨g, 0, none⟩) 0 0 []),
               he (.slice ao1 no1 co1), he (.int .i64 k), he (.slice ao1 k co1),
               hmu 7 (fun v wx => ∃ a1 c1, v = .slice a1 k c1 ∧ Own wx w4.heap.size 22 a1 k c1 (oc1.take k)),
               he (.slice a3 n3 c3), hu 7 (fun v wx => ∃ g, v = .slice (some ⟨g, 0, none⟩) 1 1 ∧ Own wx w4.heap.size 22 (some ⟨g, 0, none⟩) 1 1 [.slice a3 n3 c3]),
               hmu 11 (fun v wx => ∃ a1 c1, v = .slice a1 (k + 1) c1 ∧ Own wx w4.heap.size 22 a1 (k + 1) c1 (oc1.take k ++ [.slice a3 n3 c3])),
               he (.slice ao1 no1 co1), he (.int .i64 k), he (.slice (if co1 = k then ao1 else ao1.map (fun x => x.add k)) (no1 - k) (co1 - k)),
               hmp (fun v wx => ∃ a1 c1, v = .slice a1 (no1 + 1) c1 ∧ Own wx w4.heap.size 22 a1 (no1 + 1) c1 (oc1.take k ++ [.slice a3 n3 c3] ++ oc1.drop k))]
              (by kernel_rfl) (fun _ _ e h => h.trans e) ((Ext.refl w4).drew) ?stab ⟨?o0, ?o1, ?o2, ?o3, ?o4, ?o5, ?o6, ?o7, ?o8, ?o9, ?o10, ?o11, trivial⟩ ?fin
            case stab =>
              exact ⟨fun v w w' e ⟨g, h1, h2⟩ => ⟨g, h1, h2.ext e⟩, trivial, trivial, trivial, fun v w w' e ⟨g, c, h1, h2⟩ => ⟨g, c, h1, h2.ext e⟩, trivial, fun v w w' e ⟨g, h1, h2⟩ => ⟨g, h1, h2.ext e⟩,
                fun v w w' e ⟨g, c, h1, h2⟩ => ⟨g, c, h1, h2.ext e⟩, trivial, trivial, trivial, fun v w w' e ⟨g, c, h1, h2⟩ => ⟨g, c, h1, h2.ext e⟩, trivial⟩
            case o0 => exact obl_lit0 rfl rfl Try.underlying35 info_ints hbase
            case o1 => exact obl_move rfl rfl (fun _ _ _ h => h.1)
            case o2 => exact obl_move rfl rfl (fun _ _ _ h => h.1)
            case o3 => exact obl_slice_to rfl rfl Try.underlying35 info_ints (fun _ _ _ h => ⟨h.1, h.2.1⟩) hkc
            case o4 =>
              refine obl_app rfl rfl Try.underlying35 info_ints rfl (n := 0) (m := k) (fun u hu => h1c u (List.mem_of_mem_take hu)) (by omega) (by unfold maxLen; omega) (by omega) (List.nil_append _) hbase ?_
              rintro ρ wx hp hC ⟨⟨v0, e0, g, rfl, hO0⟩, h1, -⟩
              refine ⟨_, _, _, _, e0, hO0, h1, (hsO.ext hC).upto hkn, fun w' hg => ⟨hC.grown hg ?_, ?_⟩⟩
              · intro k hk
                exact (Own.lt hO0 hk).1
              · refine keeps_one (j := 6) (by kernel_rfl) ?_
                rintro v ⟨g6, rfl, hO6⟩
                exact ⟨g6, rfl, Own.kept hO6 hg (Or.inr (by simpa [blk] using Ne.symm (own_ne hO0 hO6 (by omega))))⟩
            case o5 => exact obl_move rfl rfl (fun _ _ _ h => h.1)
            case o6 => exact obl_lit1 rfl rfl Try.underlying35 info_ints rfl rfl hbase (fun _ _ _ h => h.1)
            case o7 =>
              refine obl_app rfl rfl Try.underlying35 info_ints rfl (n := k) (m := 1) (news := [.slice a3 n3 c3]) (by simp [Value.oneCell']) rfl (by unfold maxLen; omega) (by omega) rfl hbase ?_
              rintro ρ wx hp hC ⟨⟨v0, e0, a1, c1, rfl, hO1⟩, ⟨v1, e1, g, rfl, hO6⟩, -⟩
              refine ⟨_, _, _, _, e0, hO1, e1, hO6.sl, fun w' hg => ⟨hC.grown hg ?_, keeps_none (by kernel_rfl)⟩⟩
              intro k hk
              exact (Own.lt hO1 hk).1
            case o8 => exact obl_move rfl rfl (fun _ _ _ h => h.1)
            case o9 => exact obl_move rfl rfl (fun _ _ _ h => h.1)
            case o10 => exact obl_slice_from rfl rfl Try.underlying35 info_ints (fun _ _ _ h => ⟨h.1, h.2.1⟩) hkn
            case o11 =>
              refine obl_app rfl rfl Try.underlying35 info_ints rfl (n := k + 1) (m := no1 - k) (xs := oc1.take k ++ [.slice a3 n3 c3]) (news := oc1.drop k) (fun u hu => h1c u (List.mem_of_mem_drop hu)) (by omega) (by unfold maxLen; omega) (by omega) rfl hbase ?_
              rintro ρ wx hp hC ⟨⟨v0, e0, a1, c1, rfl, hO1⟩, e1, -⟩
              refine ⟨_, _, _, _, e0, hO1, e1, (hsO.ext hC).from hkn, fun w' hg => ⟨hC.grown hg ?_, keeps_none (by kernel_rfl)⟩⟩
              intro k hk
              exact (Own.lt hO1 hk).1
            case fin =>
              intro wx hC
              rintro v0 v4 v6 v7 v11 ⟨a5, c5, rfl, hO5⟩
              simp only [List.length_cons, List.length_nil, List.drop_succ_cons, List.drop_zero, Act.put, List.setIfInBounds_toArray, List.set_cons_succ, List.set_cons_zero, After_nil]
              have hEx := hR4.ext.trans hC
              have hA6 : Ext wx (wx.alloc (.cells #[.slice a3 n3 c3] 22)) := (Ext.refl wx).alloc _
              have hS6 := (own_alloc wx w.heap.size 22 #[.slice a3 n3 c3] 1 rfl hEx.size (by omega)).sl
              have hq6 := (hR4.ownq.ext hC).ext hA6
              go_wp2_with (refine wl_app rfl rfl Try.underlying35 info_ints rfl rfl hq6 rfl hS6 (by simp [Value.oneCell']) (by unfold maxLen; omega) (by omega) (by have := hEx.size; simp; omega) ?_; intro a7 c7 w7 hO7 hg7 hb7)
              go_roundw
              case rel =>
                have hx7 : ∀ k, blk aq1 = some k → w.heap.size ≤ k := fun k hk => (hq6.lt hk).1
                have hqlt : ∀ k, blk aq1 = some k → k < w4.heap.size := fun k hk => (hR4.ownq.lt hk).2
                have ho5 : ∀ k, blk a5 = some k → w4.heap.size ≤ k ∧ k < wx.heap.size := fun k hk => hO5.lt hk
                have hne : blk a5 = none ∨ blk a5 ≠ blk aq1 := by
                  rcases hb5 : blk a5 with _ | g
                  · exact Or.inl rfl
                  · right
                    intro e
                    have h1 := (ho5 g hb5).1
                    have h2 := hqlt g e.symm
                    omega
                have hB7 : OwnI w7 w.heap.size a3 n3 c3 (comp gj pp) := Own.kept (Own.ext (Own.ext hO4 hC) hA6) hg7 (own_ne_own (Own.ext (Own.ext hO4 hC) hA6) hq6 (by decide))
                have hP7 : OwnI w7 w.heap.size ap np cp pp := Own.kept (Own.ext (Own.ext hOp4 hC) hA6) hg7 (own_ne_own (Own.ext (Own.ext hOp4 hC) hA6) hq6 (by decide))
                have hL7 := ((hR4.els.ext hC).ext hA6).kept hg7 (fun _ _ _ _ h => own_ne_own h hq6 (by decide))
                have hQ7 := ((hR4.elsq.ext hC).ext hA6).kept hg7 (fun _ _ _ _ h => own_ne_own h hq6 (by decide))
                refine ⟨insL L1 k (comp gj pp), q1 ++ [comp gj pp], a5, no1 + 1, c5, _, a7, nq1 + 1, c7, _, j + 1, rfl, rfl, by go_num, by omega,
                  ⟨(hEx.trans hA6).grown hg7 hx7, by rw [insL_len, HNO1.out], by rw [HNQ1.out]; simp, Own.mono (Own.kept (hO5.ext hA6) hg7 hne) hR4.ext.size, hL7.ins (by rw [hol, HNO1.out]) (by rw [← HNO1.out]; exact hkn) hB7, hO7, hQ7.snoc (by rw [hR4.ownq.len, HNQ1.out]) hB7, ?_, HSO.out⟩, (HNEW.out hmem).perm (insL_perm L1 k (comp gj pp)), hP7, ?_⟩
                · rcases hb5 : blk a5 with _ | g
                  · exact Or.inl rfl
                  · right
                    intro e
                    rcases hb7 with h7 | h7
                    · rw [h7] at e
                      rcases hne with h | h
                      · rw [hb5] at h; cases h
                      · exact h (by rw [hb5]; exact e)
                    · rw [h7] at e
                      have h1 := (ho5 g hb5).2
                      simp at e
                      omega
                · have h1 := HM1.out
                  have h2 := (HNEW.out hmem).nodup
                  have h3 := reach_bound hn HP.out h2 (HNEW.out hmem).reach
                  show _ ≤ _
                  rw [insL_len]
                  simp at h3 ⊢
                  omega
              case measure => simp [intOf]; omega
        · have ej : j = ng := by omega
          go_wp2
          go_roundw
          case rel => exact ⟨L1, q1, ao1, no1, co1, oc1, aq1, nq1, cq1, qc1, rfl, rfl, hR, hI.fin (by rw [HG.out]; omega)⟩
          case measure =>
            have h1 := HM.out
            have h2 := HM1.out
            have h3 := HNO1.out
            have h4 := HNQ1.out
            simp only [lenV] at h1 ⊢
            simp [lenV] at *
            omega
    · have hz0 : nq = 0 := by omega
      subst hz0
      have hq0 : q = [] := List.eq_nil_of_length_eq_zero HNQ.out.symm
      subst hq0
      go_wp2
      go_ret
      exact ⟨L, ⟨ao, no, co, oc, rfl, hR.ext, hR.lo, hR.own, hR.els⟩, hR.sort, hI.done⟩

end Go.Proofs.Ytegmbdkdgpeahaa
