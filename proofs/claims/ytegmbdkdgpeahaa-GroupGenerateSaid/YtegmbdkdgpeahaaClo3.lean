/- The contract of group.closure. -/
import Derived.Test.YtegmbdkdgpeahaaClo2
namespace Go.Proofs.Ytegmbdkdgpeahaa
open Go Go.RowKit

theorem info_ints : Elem1 Try.prog 22 (.slice none 0 0) 24 := by unfold Elem1; kernel_rfl
theorem und_map : Try.prog.underlying 52 = some (.map 57 4) := by kernel_rfl
theorem zero_bool (w : World) : (zeroValue 4).run Try.prog w = .ok (.bool false) w := by kernel_rfl

def mapLen (w : World) (r : Nat) : Nat := match w.heap[r]? with | some (.map es _) => es.size | _ => 0
theorem mapLen_of {w : World} {r : Nat} {m : List (List Int × Value)} (h : MapIs w r m) : mapLen w r = m.length := by
  unfold mapLen
  rw [h.obj]
  simp [entL_length]
def lenV : Value → Nat | .slice _ n _ => n | _ => 0

/-- what holds at the head of the loop over the queue -/
def ClR (w0 : World) (gs : List (List Int)) (n r : Nat) (v : Value) (wr : World) : Prop :=
  ∃ L q aq nq cq qc, v = .slice aq nq cq ∧ nq = q.length ∧ Ext w0 wr ∧ w0.heap.size ≤ r ∧ MapIs wr r (kmap L) ∧ OwnO wr w0.heap.size 22 aq nq cq qc ∧ QEl wr w0.heap.size qc q ∧ ClInv gs n L q

/-- what holds at the head of the loop over the generators -/
def ClRi (w0 : World) (gs : List (List Int)) (n r : Nat) (a : List Int) (aa : Option Addr) (na ca : Nat) (M : Nat) (v i : Value) (wr : World) : Prop :=
  ∃ L q aq nq cq qc, ∃ j : Nat, v = .slice aq nq cq ∧ nq = q.length ∧ i = .int .i64 j ∧ j ≤ gs.length ∧ Ext w0 wr ∧ w0.heap.size ≤ r ∧ MapIs wr r (kmap L) ∧ OwnO wr w0.heap.size 22 aq nq cq qc ∧ QEl wr w0.heap.size qc q ∧
    OwnI wr w0.heap.size aa na ca a ∧ ClIn gs n L q a j ∧ 2 * (720 - L.length) + q.length ≤ M

/-- returns a new map that holds the closure -/
def RetM (w : World) (gs : List (List Int)) (n : Nat) (e : Ending) (w' : World) : Prop :=
  ∃ r L, e = .returned (.map (some r)) ∧ Ext w w' ∧ w.heap.size ≤ r ∧ MapIs w' r (kmap L) ∧ L.Nodup ∧ ∀ p, p ∈ L ↔ Reach gs n p

set_option maxHeartbeats 1000000 in
theorem group_closure {n : Nat} {ag : Option Addr} {ng cg : Nat} {gs : List (List Int)} {w : World} (hg : SlL w ag ng cg gs) (hn : n ≤ 6) (hp : PermsN gs n) :
    Calls Try.prog 35 #[.int .i64 n, .slice ag ng cg] w (RetM w gs n) := by
  have hgl := hg.le
  have HG := Lib.hid hg.len
  have hi6 : (idn n).length ≤ 6 := by rw [idn_len]; exact hn
  have HP := Lib.hid hp
  clear hp
  go_enter Try.func35, Try.ntmps35
  go_wp2_with fail
  refine (group_identity (by omega)).mono ?_
  rintro e w1 ⟨a1, n1, c1, rfl, hE1, hO1⟩
  have hn1 : n1 = n := by have := hO1.sl.len; rw [idn_len] at this; omega
  subst hn1
  go_wp2_with (refine wl_mkMap rfl rfl ?_; intro w2 hM2 hE2 hlt2)
  refine (group_keyOf (hO1.sl.ext hE2) hn).mono ?_
  rintro e w3 ⟨rfl, hE3⟩
  have hO3 := (hO1.ext hE2).ext hE3
  have hM3 := hM2.ext hE3
  have hEw : Ext w w3 := (hE1.trans hE2).trans hE3
  have hr0 : w.heap.size ≤ w1.heap.size := hE1.size
  generalize w1.heap.size = r at *
  clear hM2 hO1 hE3 hE2 hE1
  go_wp2_with (refine wl_put rfl (Or.inr rfl) und_map keyT_key rfl rfl rfl hM3 (pad6_len hi6) ?_; intro w4 hM4 hg4)
  have hM4' : MapIs w4 r (kmap [idn n1]) := hM4
  have hE4 : Ext w w4 := hEw.grown hg4 (by intro k hk; simp at hk; omega)
  have hO4 : OwnI w4 w.heap.size a1 n1 c1 (idn n1) := Own.kept hO3 hg4 (own_ne_map hO3 hM3)
  clear hM4 hg4 hM3 hO3 hEw
  go_wp2
  go_loopw [7] (fun v wr => ClR w gs n1 r v wr) (fun v wr => 2 * (720 - mapLen wr r) + lenV v)
  case atStart =>
    have hOq := own_alloc w4 w.heap.size 22 #[.slice a1 n1 c1] 1 rfl hE4.size (by omega)
    refine ⟨[idn n1], [idn n1], _, _, _, _, rfl, rfl, hE4.alloc _, hr0, hM4'.ext ((Ext.refl w4).alloc _), OwnO.of hOq, ?_, ClInv.start gs n1⟩
    intro i hi
    have : i = 0 := by simpa using hi
    subst this
    exact ⟨a1, n1, c1, rfl, Own.alloc hO4 _⟩
  case round =>
    clear hM4' hE4 hO4
    obtain ⟨L, q, aq, nq, cq, qc, rfl, hnq, hE, hr, hM, hO, hQ, hI⟩ := hrel
    have HNQ := Lib.hid hnq
    clear hnq
    have hb := reach_bound hn HP.out hI.nodup hI.reach
    have hlen : mapLen wr r = L.length := by rw [mapLen_of hM]; simp [kmap]
    have HLEN := Lib.hid hlen
    clear hlen
    cases q with
    | nil =>
      have hz : nq = 0 := HNQ.out
      subst hz
      go_wp2
      go_ret
      exact ⟨r, L, rfl, hE, hr, hM, hI.nodup, hI.done⟩
    | cons p q =>
      have hnq0 : 0 < nq := by rw [HNQ.out]; simp
      have hqb : nq ≤ 720 := by have := hI.short; have h2 := HNQ.out; omega
      obtain ⟨ap, np, cp, hqc0, hOp⟩ := hQ 0 (by simp)
      obtain ⟨bq, oq, rfl, hcq⟩ := hO.sl.rd hnq0
      have hc0 := hcq 0 hnq0
      rw [hqc0, Nat.add_zero] at hc0
      have hcap := hO.sl.cap
      have hmx := hO.sl.max
      unfold maxLen at hmx
      clear hcq hqc0
      go_wp2_with (refine wl_cutO rfl rfl Try.underlying35 info_ints rfl rfl (k := 1) hO (by omega) ?_; intro a7 hb7 hO7)
      obtain ⟨wo, rfl⟩ : ∃ wo : World, wo = wr := ⟨_, rfl⟩
      go_loopw [7, 30] (fun v i wr => ClRi w gs n1 r p ap np cp (2 * (720 - L.length) + q.length) v i wr) (fun _ i _ => gs.length - (intOf i).toNat)
      case atStart =>
        refine ⟨L, q, a7, nq - 1, cq - 1, qc.drop 1, 0, rfl, by rw [HNQ.out]; simp, rfl, Nat.zero_le _, hE, hr, hM, hO7, hQ.tail, hOp, ClIn.start hI, Nat.le_refl _⟩
      case round =>
        have HMo : Hid (2 * (720 - mapLen wo r) + lenV (.slice (some ⟨bq, oq, none⟩) nq cq) = 2 * (720 - L.length) + (q.length + 1)) := by
          show _ = _
          rw [HLEN.out]
          simp only [lenV]
          rw [HNQ.out]
          rfl
        clear hO hQ hOp hM hI hO7 hc0 HLEN
        obtain ⟨L2, q2, aq2, nq2, cq2, qc2, j, rfl, hnq2, rfl, hj, hE2, _, hM2, hO2, hQ2, hOp2, hI2, hmeas⟩ := hrel
        have HNQ2 := Lib.hid hnq2
        clear hnq2
        have hb2 := reach_bound hn HP.out hI2.nodup hI2.reach
        have hL6 : ∀ x ∈ L2, x.length = n1 := fun x hx => (reach_perm hn HP.out (hI2.reach x hx)).2
        have hlen2 : mapLen wr r = L2.length := by rw [mapLen_of hM2]; simp [kmap]
        have HLEN2 := Lib.hid hlen2
        have HL6 := Lib.hid hL6
        clear hlen2 hL6
        have hgw := hg.ext hE2
        have hjn : j ≤ ng := by rw [← HG.out]; exact hj
        by_cases hjlt : j < ng
        · obtain ⟨bg, og, ag1, ng1, cg1, rfl, hcg, hSg⟩ := hgw.at hjlt
          have hjg : j < gs.length := by rw [HG.out]; exact hjlt
          have hgm : gs.getD j [] ∈ gs := by simp [List.getD_eq_getElem?_getD, hjg]
          obtain ⟨pg1, pg2⟩ := HP.out _ hgm
          obtain ⟨pp1, pp2⟩ := reach_perm hn HP.out (hI2.reach p hI2.mem)
          have hOld := hI2.old hjg
          have hNew := hI2.new hjg
          have hbl : (comp (gs.getD j []) p).length = n1 := by rw [comp_len]; exact pp2
          generalize hgj : gs.getD j [] = gj at *
          have hng1 : ng1 = n1 := by have := hSg.len; omega
          have hnp : np = n1 := by have := hOp2.sl.len; omega
          have HOLD := Lib.hid hOld
          have HNEW := Lib.hid hNew
          have HBL := Lib.hid hbl
          have PP := Lib.hid pp1
          have PP2 := Lib.hid pp2
          have HNG := Lib.hid hng1
          have HNP := Lib.hid hnp
          clear hOld hNew hbl hgj pg2 pp1 pp2 hng1 hnp hjg hgm
          go_wp2_with fail
          refine (group_compose hSg hOp2.sl ?_ (by have := HNP.out; omega)).mono ?_
          · intro i hi
            have h1 := HNP.out
            have h2 := HNG.out
            have h3 := PP2.out
            have := perm_at PP.out (i := i) (by omega)
            omega
          rintro e w3 ⟨a3, n3, c3, rfl, hE3, hO3⟩
          have hn3 : n3 = n1 := by have := hO3.sl.len; rw [HBL.out] at this; exact this.symm
          subst hn3
          go_wp2_with fail
          refine (group_keyOf hO3.sl hn).mono ?_
          rintro e w4 ⟨rfl, hE4⟩
          have hM4 := (hM2.ext hE3).ext hE4
          have hO4 := (hO2.ext hE3).ext hE4
          have hQ4 := (hQ2.ext hE3).ext hE4
          have hOp4 := (hOp2.ext hE3).ext hE4
          have hOb4 : OwnI w4 w.heap.size a3 n3 c3 (comp gj p) := Own.mono (Own.ext hO3 hE4) hE2.size
          have hEw4 := (hE2.trans hE3).trans hE4
          clear hM2 hO2 hQ2 hOp2 hO3 hE3 hE4 hE2
          have hk6 : (pad6 (comp gj p)).length = 6 := pad6_len (by rw [HBL.out]; exact hn)
          have hlook := kmap_look HL6.out HBL.out
          by_cases hin : comp gj p ∈ L2
          · simp only [hin, decide_true] at hlook
            go_wp2_with (refine wl_lookup rfl rfl und_map keyT_key zero_bool rfl rfl hM4 hk6 ?_; simp only [Bool.false_eq_true, if_false]; rw [hlook])
            go_roundw
            case rel => exact ⟨L2, q2, aq2, nq2, cq2, qc2, j + 1, rfl, HNQ2.out, by go_num, by have := HG.out; omega, hEw4, hr, hM4, hO4, hQ4, hOp4, HOLD.out hin, hmeas⟩
            case measure => have := HG.out; simp [intOf]; omega
          · simp only [hin, decide_false] at hlook
            go_wp2_with (refine wl_lookup rfl rfl und_map keyT_key zero_bool rfl rfl hM4 hk6 ?_; simp only [Bool.false_eq_true, if_false]; rw [hlook])
            refine (group_keyOf hOb4.sl hn).mono ?_
            rintro e w5 ⟨rfl, hE5⟩
            have hM5 := hM4.ext hE5
            have hO5 := hO4.ext hE5
            have hQ5 := hQ4.ext hE5
            have hOp5 := hOp4.ext hE5
            have hOb5 := hOb4.ext hE5
            have hEw5 := hEw4.trans hE5
            clear hM4 hO4 hQ4 hOp4 hOb4 hE5 hEw4 hlook
            go_upto_region 13 with (refine wl_put (v := .bool true) rfl (Or.inl rfl) und_map keyT_key rfl rfl rfl hM5 hk6 ?_; intro w6 hM6 hg6)
            rw [kmap_put HL6.out HBL.out hin] at hM6
            have hO6 := hO5.kept hg6 (ownO_ne_map hO5 hM5)
            have hQ6 := hQ5.kept hg6 (fun _ _ _ _ h => own_ne_map h hM5)
            have hOp6 : OwnI w6 w.heap.size ap np cp p := Own.kept hOp5 hg6 (own_ne_map hOp5 hM5)
            have hOb6 : OwnI w6 w.heap.size a3 n3 c3 (comp gj p) := Own.kept hOb5 hg6 (own_ne_map hOb5 hM5)
            have hEw6 : Ext w w6 := hEw5.grown hg6 (by intro k hk; simp at hk; omega)
            have hnq2 : nq2 ≤ 720 := by have := hI2.short; have h2 := HNQ2.out; omega
            clear hM5 hO5 hQ5 hOp5 hOb5 hEw5 hg6
            have hA7 : Ext w6 (w6.alloc (.cells #[.slice a3 n3 c3] 22)) := (Ext.refl w6).alloc _
            have hS7 := (own_alloc w6 w.heap.size 22 #[.slice a3 n3 c3] 1 rfl hEw6.size (by omega)).sl
            have hO7 := hO6.ext hA7
            go_wp2_with (refine wl_appO rfl rfl Try.underlying35 info_ints rfl rfl hO7 rfl hS7 (by simp [Value.oneCell']) (by unfold maxLen; omega) (by omega) (by have := hEw6.size; simp; omega) (by omega) ?_; intro a8 c8 w8 hO8 hg8 hb8)
            go_roundw
            case rel =>
              have hEw7 := hEw6.trans hA7
              refine ⟨L2 ++ [comp gj p], q2 ++ [comp gj p], a8, nq2 + 1, c8, _, j + 1, rfl, by rw [HNQ2.out]; simp, by go_num, by have := HG.out; omega, hEw7.grown hg8 (fun k hk => (hO7.lt hk).1), hr, ?_, hO8, ?_, ?_, HNEW.out hin, ?_⟩
              · have hM7 := hM6.ext hA7
                refine hM7.kept hg8 ?_
                rcases ownO_ne_map hO7 hM7 with h | h
                · rw [h]; simp
                · exact fun h2 => h h2.symm
              · have hQ7 := (hQ6.ext hA7).kept hg8 (fun _ _ _ _ h => own_ne_ownO h hO7 (by decide))
                have hOb7 : OwnI _ w.heap.size a3 n3 c3 (comp gj p) := Own.kept (Own.ext hOb6 hA7) hg8 (own_ne_ownO (Own.ext hOb6 hA7) hO7 (by decide))
                exact hQ7.snoc (by rw [hO7.len, HNQ2.out]) hOb7
              · exact Own.kept (Own.ext hOp6 hA7) hg8 (own_ne_ownO (Own.ext hOp6 hA7) hO7 (by decide))
              · have := reach_bound hn HP.out (HNEW.out hin).nodup (HNEW.out hin).reach
                simp only [List.length_append, List.length_singleton] at this ⊢
                omega
            case measure => have := HG.out; simp [intOf]; omega
        · go_wp2
          go_roundw
          case rel => exact ⟨L2, q2, aq2, nq2, cq2, qc2, rfl, HNQ2.out, hE2, hr, hM2, hO2, hQ2, hI2.fin (by have := HG.out; omega)⟩
          case measure =>
            have h1 := HMo.out
            have h2 := HLEN2.out
            have h3 := HNQ2.out
            simp [lenV] at h1 ⊢
            omega

end Go.Proofs.Ytegmbdkdgpeahaa
