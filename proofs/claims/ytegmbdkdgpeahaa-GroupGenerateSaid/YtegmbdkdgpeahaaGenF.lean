/- The contracts of the program's and the reference's Generate, for whatever arguments. -/
import Derived.Test.YtegmbdkdgpeahaaSrt4
import Derived.Test.YtegmbdkdgpeahaaOrb4
namespace Go.Proofs.Ytegmbdkdgpeahaa
open Go Go.RowKit

/-- the group that is generated, in order -/
def GenOK (n : Nat) (gs ps : List (List Int)) : Prop := ps.Nodup ∧ (∀ p, p ∈ ps ↔ Reach gs n p) ∧ ordOn ps 0 ps.length
theorem GenOK.eq {n : Nat} {gs ps : List (List Int)} (h : GenOK n gs ps) : ps = Classical.epsilon (GenOK n gs) := by
  have h2 := Classical.epsilon_spec (p := GenOK n gs) ⟨ps, h⟩
  exact ord_unique h.1 h2.1 (fun x => by rw [h.2.1, h2.2.1]) h.2.2 h2.2.2

/-- what Generate answers -/
noncomputable def genS (n : Int) (gs : List (List Int)) : List (List Int) × Int :=
  if n < 0 ∨ 6 < n then ([], 3)
  else if 16 < gs.length then ([], 2)
  else if gs.all permB = true then
    if gs.all (fun m => decide ((m.length : Int) = n)) = true then (Classical.epsilon (GenOK n.toNat gs), 0) else ([], 4)
  else ([], 1)

set_option maxHeartbeats 1000000 in
theorem group_Generate {n : Int} {ag : Option Addr} {ng cg : Nat} {gs : List (List Int)} {w : World} (hg : SlL w ag ng cg gs) :
    Calls Try.prog 16 #[.int .i64 n, .slice ag ng cg] w (RetLE w (genS n gs).1 (genS n gs).2) := by
  have HG := Lib.hid hg.len
  by_cases hn0 : n < 0
  · have HS : Hid (genS n gs = ([], 3)) := by
      show _ = _
      unfold genS
      rw [if_pos (Or.inl hn0)]
    go_enter Try.func16, Try.ntmps16
    go_wp2
    go_ret2
    exact RetLE.none (Ext.refl w) (by rw [HS.out])
  · by_cases hn6 : 6 < n
    · have HS : Hid (genS n gs = ([], 3)) := by
        show _ = _
        unfold genS
        rw [if_pos (Or.inr hn6)]
      go_enter Try.func16, Try.ntmps16
      go_wp2
      go_ret2
      exact RetLE.none (Ext.refl w) (by rw [HS.out])
    · by_cases h16 : (16 : Int) < ng
      · have HS : Hid (genS n gs = ([], 2)) := by
          show _ = _
          unfold genS
          rw [if_neg (by omega), if_pos (by rw [HG.out]; omega)]
        go_enter Try.func16, Try.ntmps16
        go_wp2
        go_ret2
        exact RetLE.none (Ext.refl w) (by rw [HS.out])
      · obtain ⟨k6, hk6, hk6'⟩ : ∃ k6 : Nat, n = (k6 : Int) ∧ k6 ≤ 6 := ⟨n.toNat, by omega, by omega⟩
        subst hk6
        have HS0 : Hid (genS k6 gs = if gs.all permB = true then if gs.all (fun m => decide ((m.length : Int) = k6)) = true then (Classical.epsilon (GenOK k6 gs), 0) else ([], 4) else ([], 1)) := by
          show _ = _
          unfold genS
          rw [if_neg (by omega), if_neg (by rw [HG.out]; omega)]
          rfl
        clear hn0 hn6
        go_enter Try.func16, Try.ntmps16
        go_wp2
        go_loopw [21] (fun i wr => ∃ k : Nat, k ≤ ng ∧ i = .int .i64 k ∧ Ext w wr ∧ Hid ((gs.take k).all permB = true)) (fun i _ => ng - (intOf i).toNat)
        case atStart => exact ⟨0, Nat.zero_le _, rfl, Ext.refl _, Lib.hid rfl⟩
        case round =>
          obtain ⟨k, hk, rfl, hE, HV⟩ := hrel
          have hgw := hg.ext hE
          by_cases hlt : k < ng
          · obtain ⟨bg, og, ag1, ng1, cg1, rfl, hcg, hSg⟩ := hgw.at hlt
            have hkl : k < gs.length := by rw [HG.out]; exact hlt
            cases hv : permB (gs.getD k []) with
            | false =>
              have HS : Hid (genS k6 gs = ([], 1)) := by
                show _ = _
                rw [HS0.out, if_neg (by rw [all_no hkl hv]; simp)]
              go_wp2_with fail
              refine (group_Valid hSg).mono ?_
              rw [hv]
              rintro e w1 ⟨rfl, hE1⟩
              go_wp2
              go_ret2
              exact RetLE.none (hE.trans hE1) (by rw [HS.out])
            | true =>
              have HV2 := Lib.hid (all_step hkl HV.out hv)
              go_wp2_with fail
              refine (group_Valid hSg).mono ?_
              rw [hv]
              rintro e w1 ⟨rfl, hE1⟩
              go_wp2
              go_roundw
              case rel => exact ⟨k + 1, by omega, by go_num, hE.trans hE1, HV2⟩
              case measure => simp [intOf]; omega
          · have hall : Hid (gs.all permB = true) := by
              have := HV.out
              rw [List.take_of_length_le (by have := HG.out; omega)] at this
              exact this
            obtain ⟨wo, rfl⟩ : ∃ wo : World, wo = wr := ⟨_, rfl⟩
            clear HV
            go_wp2
            go_loop [31] (fun i => ∃ k : Nat, k ≤ ng ∧ i = .int .i64 k ∧ Hid ((gs.take k).all (fun m => decide ((m.length : Int) = k6)) = true)) (fun i => ng - (intOf i).toNat)
            case atStart => exact ⟨0, Nat.zero_le _, rfl, Lib.hid rfl⟩
            case round =>
              clear hlt
              obtain ⟨k, hk, rfl, HV⟩ := hrel
              by_cases hlt : k < ng
              · obtain ⟨bg, og, ag1, ng1, cg1, rfl, hcg, hSg⟩ := hgw.at hlt
                have hkl : k < gs.length := by rw [HG.out]; exact hlt
                have HL := Lib.hid hSg.len
                by_cases hne : ng1 = k6
                · have hnb : ((ng1 : Int) != (k6 : Int)) = false := by simp [hne]
                  have HV2 := Lib.hid (all_step hkl HV.out (by rw [HL.out]; simp [hne]))
                  clear hne hSg
                  go_wp2
                  go_round
                  case rel => exact ⟨k + 1, by omega, by go_num, HV2⟩
                  case measure => simp [intOf]; omega
                · have hnb : ((ng1 : Int) != (k6 : Int)) = true := by simp; omega
                  have HS : Hid (genS k6 gs = ([], 4)) := by
                    show _ = _
                    rw [HS0.out, if_pos hall.out, if_neg]
                    rw [all_no hkl (by rw [HL.out]; simp; omega)]
                    simp
                  clear hne hSg
                  go_wp2
                  go_ret2
                  exact RetLE.none hE (by rw [HS.out])
              · have hlen : Hid (gs.all (fun m => decide ((m.length : Int) = k6)) = true) := by
                  have := HV.out
                  rw [List.take_of_length_le (by have := HG.out; omega)] at this
                  exact this
                have HS : Hid (genS k6 gs = (Classical.epsilon (GenOK k6 gs), 0)) := by
                  show _ = _
                  rw [HS0.out, if_pos hall.out, if_pos hlen.out]
                have HP : Hid (PermsN gs k6) := by
                  show PermsN gs k6
                  intro g hg
                  have h1 := hall.out
                  have h2 := hlen.out
                  rw [List.all_eq_true] at h1 h2
                  have h3 := h2 g hg
                  rw [decide_eq_true_eq] at h3
                  exact ⟨h1 g hg, by omega⟩
                clear HV HS0
                go_wp2_with fail
                refine (group_closure hgw hk6' HP.out).mono ?_
                rintro e w1 ⟨r, L, rfl, hE1, hr, hM, hnd, hmem⟩
                have hLb := reach_bound hk6' HP.out hnd (fun p hp => (hmem p).1 hp)
                have hL1 : 0 < L.length := List.length_pos_of_mem ((hmem _).2 (reach_id gs k6))
                go_wp2_with fail
                refine (group_sortedA hM hk6' (fun x hx => (reach_perm hk6' HP.out ((hmem x).1 hx)).2) (by omega) hL1).mono ?_
                rintro e w2 ⟨ps, ⟨a2, n2, c2, cells, rfl, hE2, hn2, hO2, hQ2⟩, hperm, hord⟩
                have HN2 := Lib.hid hn2
                clear hn2
                go_wp2
                go_ret2
                have hok : GenOK k6 gs ps := ⟨hperm.nodup_iff.2 hnd, fun p => by rw [hperm.mem_iff, hmem], by rw [hperm.length_eq]; exact hord⟩
                rw [HS.out, ← GenOK.eq hok]
                exact ⟨a2, n2, c2, rfl, (hE.trans hE1).trans hE2, slL_of HN2.out hO2 hQ2⟩

set_option maxHeartbeats 1000000 in
theorem ref_Generate {n : Int} {ag : Option Addr} {ng cg : Nat} {gs : List (List Int)} {w : World} (hg : SlL w ag ng cg gs) :
    Calls Try.prog 17 #[.int .i64 n, .slice ag ng cg] w (RetLE w (genS n gs).1 (genS n gs).2) := by
  have HG := Lib.hid hg.len
  by_cases hn0 : n < 0
  · have HS : Hid (genS n gs = ([], 3)) := by
      show _ = _
      unfold genS
      rw [if_pos (Or.inl hn0)]
    go_enter Try.func17, Try.ntmps17
    go_wp2
    go_ret2
    exact RetLE.none (Ext.refl w) (by rw [HS.out])
  · by_cases hn6 : 6 < n
    · have HS : Hid (genS n gs = ([], 3)) := by
        show _ = _
        unfold genS
        rw [if_pos (Or.inr hn6)]
      go_enter Try.func17, Try.ntmps17
      go_wp2
      go_ret2
      exact RetLE.none (Ext.refl w) (by rw [HS.out])
    · by_cases h16 : (16 : Int) < ng
      · have HS : Hid (genS n gs = ([], 2)) := by
          show _ = _
          unfold genS
          rw [if_neg (by omega), if_pos (by rw [HG.out]; omega)]
        go_enter Try.func17, Try.ntmps17
        go_wp2
        go_ret2
        exact RetLE.none (Ext.refl w) (by rw [HS.out])
      · obtain ⟨k6, hk6, hk6'⟩ : ∃ k6 : Nat, n = (k6 : Int) ∧ k6 ≤ 6 := ⟨n.toNat, by omega, by omega⟩
        subst hk6
        have HS0 : Hid (genS k6 gs = if gs.all permB = true then if gs.all (fun m => decide ((m.length : Int) = k6)) = true then (Classical.epsilon (GenOK k6 gs), 0) else ([], 4) else ([], 1)) := by
          show _ = _
          unfold genS
          rw [if_neg (by omega), if_neg (by rw [HG.out]; omega)]
          rfl
        clear hn0 hn6
        go_enter Try.func17, Try.ntmps17
        go_wp2
        go_loopw [6] (fun i wr => ∃ k : Nat, k ≤ ng ∧ i = .int .i64 k ∧ Ext w wr ∧ Hid ((gs.take k).all permB = true)) (fun i _ => ng - (intOf i).toNat)
        case atStart => exact ⟨0, Nat.zero_le _, rfl, Ext.refl _, Lib.hid rfl⟩
        case round =>
          obtain ⟨k, hk, rfl, hE, HV⟩ := hrel
          have hgw := hg.ext hE
          by_cases hlt : k < ng
          · obtain ⟨bg, og, ag1, ng1, cg1, rfl, hcg, hSg⟩ := hgw.at hlt
            have hkl : k < gs.length := by rw [HG.out]; exact hlt
            cases hv : permB (gs.getD k []) with
            | false =>
              have HS : Hid (genS k6 gs = ([], 1)) := by
                show _ = _
                rw [HS0.out, if_neg (by rw [all_no hkl hv]; simp)]
              go_wp2_with fail
              refine (ref_Valid hSg).mono ?_
              rw [hv]
              rintro e w1 ⟨rfl, hE1⟩
              go_wp2
              go_ret2
              exact RetLE.none (hE.trans hE1) (by rw [HS.out])
            | true =>
              have HV2 := Lib.hid (all_step hkl HV.out hv)
              go_wp2_with fail
              refine (ref_Valid hSg).mono ?_
              rw [hv]
              rintro e w1 ⟨rfl, hE1⟩
              go_wp2
              go_roundw
              case rel => exact ⟨k + 1, by omega, by go_num, hE.trans hE1, HV2⟩
              case measure => simp [intOf]; omega
          · have hall : Hid (gs.all permB = true) := by
              have := HV.out
              rw [List.take_of_length_le (by have := HG.out; omega)] at this
              exact this
            obtain ⟨wo, rfl⟩ : ∃ wo : World, wo = wr := ⟨_, rfl⟩
            clear HV
            go_wp2
            go_loop [7] (fun i => ∃ k : Nat, k ≤ ng ∧ i = .int .i64 k ∧ Hid ((gs.take k).all (fun m => decide ((m.length : Int) = k6)) = true)) (fun i => ng - (intOf i).toNat)
            case atStart => exact ⟨0, Nat.zero_le _, rfl, Lib.hid rfl⟩
            case round =>
              clear hlt
              obtain ⟨k, hk, rfl, HV⟩ := hrel
              by_cases hlt : k < ng
              · obtain ⟨bg, og, ag1, ng1, cg1, rfl, hcg, hSg⟩ := hgw.at hlt
                have hkl : k < gs.length := by rw [HG.out]; exact hlt
                have HL := Lib.hid hSg.len
                by_cases hne : ng1 = k6
                · have hnb : ((ng1 : Int) != (k6 : Int)) = false := by simp [hne]
                  have HV2 := Lib.hid (all_step hkl HV.out (by rw [HL.out]; simp [hne]))
                  clear hne hSg
                  go_wp2
                  go_round
                  case rel => exact ⟨k + 1, by omega, by go_num, HV2⟩
                  case measure => simp [intOf]; omega
                · have hnb : ((ng1 : Int) != (k6 : Int)) = true := by simp; omega
                  have HS : Hid (genS k6 gs = ([], 4)) := by
                    show _ = _
                    rw [HS0.out, if_pos hall.out, if_neg]
                    rw [all_no hkl (by rw [HL.out]; simp; omega)]
                    simp
                  clear hne hSg
                  go_wp2
                  go_ret2
                  exact RetLE.none hE (by rw [HS.out])
              · have hlen : Hid (gs.all (fun m => decide ((m.length : Int) = k6)) = true) := by
                  have := HV.out
                  rw [List.take_of_length_le (by have := HG.out; omega)] at this
                  exact this
                have HS : Hid (genS k6 gs = (Classical.epsilon (GenOK k6 gs), 0)) := by
                  show _ = _
                  rw [HS0.out, if_pos hall.out, if_pos hlen.out]
                have HP : Hid (PermsN gs k6) := by
                  show PermsN gs k6
                  intro g hg
                  have h1 := hall.out
                  have h2 := hlen.out
                  rw [List.all_eq_true] at h1 h2
                  have h3 := h2 g hg
                  rw [decide_eq_true_eq] at h3
                  exact ⟨h1 g hg, by omega⟩
                clear HV HS0
                go_wp2_with fail
                refine (ref_Closure hgw hk6' HP.out).mono ?_
                rintro e w2 ⟨ps, ⟨a2, n2, c2, cells, rfl, hE2, hn2, hO2, hQ2⟩, hso, hre⟩
                have HN2 := Lib.hid hn2
                clear hn2
                go_wp2
                go_ret2
                have hok : GenOK k6 gs ps := ⟨hso.nodup, hre, fun i j _ h1 h2 => by have := hso i j h1 h2; omega⟩
                rw [HS.out, ← GenOK.eq hok]
                exact ⟨a2, n2, c2, rfl, hE.trans hE2, slL_of HN2.out hO2 hQ2⟩

end Go.Proofs.Ytegmbdkdgpeahaa
