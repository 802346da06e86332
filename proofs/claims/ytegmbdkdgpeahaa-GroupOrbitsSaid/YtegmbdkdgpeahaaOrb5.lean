/- The walk of the reference's Orbits. -/
import Derived.Test.YtegmbdkdgpeahaaOrb4
namespace Go.Proofs.Ytegmbdkdgpeahaa
open Go Go.RowKit

theorem OB.keep {w w' : World} {base : Nat} {a : Option Addr} {n c : Nat} {qc : List Value} {os : List (List Int)} {row : Option Nat} (h : OB w base a n c qc os) (hg : w.grownBy w' row) (h1 : blk a = none ∨ blk a ≠ row)
    (h2 : ∀ i, i < qc.length → sBlk (qc.getD i undef) = none ∨ sBlk (qc.getD i undef) ≠ row) : OB w' base a n c qc os := by
  refine ⟨h.row.kept hg h1, h.len, fun i hi => ?_, h.dj⟩
  obtain ⟨a', n', c', e, o⟩ := h.els i hi
  have := h2 i (by rw [h.qlen]; exact hi)
  rw [e] at this
  exact ⟨a', n', c', e, Own.kept o hg this⟩
theorem OB.ne_ty {w : World} {base base' : Nat} {a a' : Option Addr} {n c n' c' : Nat} {qc cs' : List Value} {os : List (List Int)} {e : TypeId} (h : OB w base a n c qc os) (h' : Own w base' e a' n' c' cs') (hne : 3 ≠ e) :
    ∀ i, i < qc.length → sBlk (qc.getD i undef) = none ∨ sBlk (qc.getD i undef) ≠ blk a' := by
  intro i hi
  obtain ⟨a2, n2, c2, e2, o2⟩ := h.els i (by rw [← h.qlen]; exact hi)
  rw [e2]
  exact own_ne_own o2 h' hne
/-- one more list -/
theorem OB.snoc {w w' : World} {base : Nat} {a a' : Option Addr} {n c c' : Nat} {qc : List Value} {os : List (List Int)} {a1 : Option Addr} {n1 c1 : Nat} {xs : List Int} (h : OB w base a n c qc os) (ho : Own w' base 22 a' (n + 1) c' (qc ++ [.slice a1 n1 c1])) (hg : w.grownBy w' (blk a))
    (h1 : OwnI w base a1 n1 c1 xs) (hd : ∀ i, i < qc.length → sBlk (qc.getD i undef) = none ∨ sBlk (qc.getD i undef) ≠ blk a1) : OB w' base a' (n + 1) c' (qc ++ [.slice a1 n1 c1]) (os ++ [xs]) := by
  have hl := h.qlen
  refine ⟨ho, by rw [List.length_append, h.len]; rfl, ?_, ?_⟩
  · have h2 : QEl w' base qc os := h.els.kept hg (fun _ _ _ _ h' => own_ne_own h' h.row (by decide))
    exact h2.snoc hl (Own.kept h1 hg (own_ne_own h1 h.row (by decide)))
  · intro i j hi hj hne
    simp only [List.length_append, List.length_singleton] at hi hj
    by_cases hi1 : i < qc.length
    · by_cases hj1 : j < qc.length
      · rw [getD_app_l hi1, getD_app_l hj1]
        exact h.dj i j hi1 hj1 hne
      · have : j = qc.length := by omega
        subst this
        rw [getD_app_l hi1, getD_app_r]
        exact hd i hi1
    · have : i = qc.length := by omega
      subst this
      have hj1 : j < qc.length := by omega
      rw [getD_app_r, getD_app_l hj1]
      rcases hd j hj1 with h3 | h3
      · cases hq : blk a1 with
        | none => exact Or.inl hq
        | some z => right; rw [h3]; show blk a1 ≠ none; rw [hq]; simp
      · exact Or.inr (fun e => h3 e.symm)

/-- marks, by a test -/
def seenP (m : Nat) (p : Nat → Bool) : List Value := (List.range m).map (fun j => Value.bool (p j))
theorem seenP_none (m : Nat) : seenP m (fun _ => false) = List.replicate m (Value.bool false) := by
  unfold seenP
  rw [List.map_const', List.length_range]
theorem seenP_at {m : Nat} (p : Nat → Bool) {j : Nat} (h : j < m) : (seenP m p).getD j undef = .bool (p j) := by
  simp [seenP, List.getD_eq_getElem?_getD, h]
theorem seenP_congr {m : Nat} {p q : Nat → Bool} (h : ∀ j, j < m → p j = q j) : seenP m p = seenP m q := by
  unfold seenP
  apply List.map_congr_left
  intro j hj
  rw [h j (by simpa using hj)]
theorem seenP_set (m : Nat) (p : Nat → Bool) (k : Nat) : (seenP m p).set k (.bool true) = seenP m (fun j => p j || decide (j = k)) := by
  apply List.ext_getElem
  · simp [seenP]
  · intro i h1 h2
    rw [List.getElem_set]
    by_cases hi : k = i
    · rw [if_pos hi]
      simp [seenP, hi]
    · rw [if_neg hi]
      have : i ≠ k := fun h => hi h.symm
      simp [seenP, this]

theorem all_take {l : List (List Int)} {p : List Int → Bool} {k : Nat} (hk : k < l.length) : (l.take (k + 1)).all p = ((l.take k).all p && p (l.getD k [])) := by
  rw [List.take_succ_eq_append_getElem hk, List.all_append]
  simp [List.getD_eq_getElem?_getD, hk]

/-- the marks while the list of κ is made -/
def markP (ks : List (List Int)) (i k : Nat) (x : Nat) : Bool := decide (ks.getD x [] ∈ dk ks i) || (decide (x < k) && decide (ks.getD x [] = ks.getD i []))
theorem markP_start {ks : List (List Int)} {i : Nat} (h : ks.getD i [] ∉ dk ks i) (x : Nat) : decide (ks.getD x [] ∈ dk ks i) = markP ks i i x := by
  unfold markP
  by_cases h1 : x < i
  · by_cases h2 : ks.getD x [] = ks.getD i []
    · exact absurd (dk_mem.2 ⟨x, h1, h2⟩) h
    · simp only [h2, decide_false, Bool.and_false, Bool.or_false]
  · simp only [h1, decide_false, Bool.false_and, Bool.or_false]
theorem markP_step {ks : List (List Int)} {i k : Nat} {fd : Bool} (h : fd = true ↔ ks.getD k [] = ks.getD i []) (x : Nat) : (markP ks i k x || (fd && decide (x = k))) = markP ks i (k + 1) x := by
  unfold markP
  by_cases h1 : x = k
  · subst h1
    have : fd = decide (ks.getD x [] = ks.getD i []) := by
      cases fd with
      | true => exact (decide_eq_true (h.1 rfl)).symm
      | false => exact (decide_eq_false (fun e => by have := h.2 e; cases this)).symm
    rw [this]
    simp
  · have : (x < k + 1) = (x < k) := by simp; omega
    simp only [h1, decide_false, Bool.and_false, Bool.or_false, this]
theorem markP_end {ks : List (List Int)} {i m : Nat} (h : ks.getD i [] ∉ dk ks i) {x : Nat} (hx : x < m) : markP ks i m x = decide (ks.getD x [] ∈ dk ks (i + 1)) := by
  unfold markP
  rw [show dk ks (i + 1) = dk ks i ++ [ks.getD i []] from if_neg h]
  simp only [hx, decide_true, Bool.true_and, List.mem_append, List.mem_singleton, Bool.decide_or]
theorem idxL_step {ks : List (List Int)} {i k : Nat} {fd : Bool} (h : fd = true ↔ ks.getD k [] = ks.getD i []) : idxL ks (k + 1) (ks.getD i []) = idxL ks k (ks.getD i []) ++ (if fd = true then [(k : Int)] else []) := by
  rw [idxL_succ]
  by_cases h1 : ks.getD k [] = ks.getD i []
  · rw [if_pos h1, if_pos (h.2 h1)]
  · rw [if_neg h1, if_neg (fun e => h1 (h.1 e)), List.append_nil]
theorem markP_at {ks : List (List Int)} {i k : Nat} : markP ks i k k = decide (ks.getD k [] ∈ dk ks i) := by
  unfold markP
  simp

set_option maxRecDepth 10000 in
set_option maxHeartbeats 2000000 in
theorem ref_Orbits {a b : Option Addr} {q c m d : Nat} {gs ls : List (List Int)} {w : World} (hx : SlL w a q c gs) (hy : SlL w b m d ls) (hn6 : q ≤ 1000000) (hm6 : m ≤ 1000000) :
    Calls Try.prog 30 #[.slice a q c, .slice b m d] w (RetLE w (orbitsS gs ls).1 (orbitsS gs ls).2) := by
  have HX := Lib.hid hx.len
  have HY := Lib.hid hy.len
  go_enter Try.func30, Try.ntmps30
  go_wp2_with fail
  refine (ref_IsGroup hx).mono ?_
  rintro e w1 ⟨rfl, hE1⟩
  go_wp2
  go_loopw [6, 7] (fun v i wr => ∃ k : Nat, ∃ ok, v = .bool ok ∧ i = .int .i64 k ∧ k ≤ m ∧ Ext w wr ∧ Hid (ok = true ↔ isGB gs = true ∧ (ls.take k).all validS = true)) (fun _ i _ => m - (intOf i).toNat)
  case atStart => exact ⟨0, isGB gs, rfl, rfl, Nat.zero_le _, hE1, Lib.hid (by simp)⟩
  case round =>
    clear hE1
    obtain ⟨k, ok, rfl, rfl, hk, hE, HV⟩ := hrel
    have hyr := hy.ext hE
    by_cases hlt : k < m
    · obtain ⟨b2, o2, a2, n2, c2, rfl, g2, s2⟩ := hyr.at hlt
      have hkl : k < ls.length := by rw [HY.out]; exact hlt
      cases ok with
      | false =>
        have HV2 : Hid (false = true ↔ isGB gs = true ∧ (ls.take (k + 1)).all validS = true) := by
          show _ ↔ _
          rw [all_take hkl, Bool.and_eq_true]
          exact ⟨fun h => (by cases h), fun h => HV.out.2 ⟨h.1, h.2.1⟩⟩
        go_wp2
        go_roundw
        case rel => exact ⟨k + 1, false, rfl, by go_num, by omega, hE, HV2⟩
        case measure => simp [intOf]; omega
      | true =>
        obtain ⟨vb, hv⟩ : ∃ vb, validS (ls.getD k []) = vb := ⟨_, rfl⟩
        have HV2 : Hid (vb = true ↔ isGB gs = true ∧ (ls.take (k + 1)).all validS = true) := by
          show _ ↔ _
          have h1 := HV.out.1 rfl
          rw [all_take hkl, hv, Bool.and_eq_true]
          exact ⟨fun h => ⟨h1.1, h1.2, h⟩, fun h => h.2.2⟩
        go_wp2_with fail
        refine (ref05_Valid s2).mono ?_
        rw [hv]
        rintro e w2 ⟨rfl, rfl⟩
        go_wp2
        go_roundw
        case rel => exact ⟨k + 1, vb, rfl, by go_num, by omega, hE, HV2⟩
        case measure => simp [intOf]; omega
    · have ek : k = m := by omega
      have HV2 : Hid (ok = true ↔ isGB gs = true ∧ ls.all validS = true) := by
        have := HV.out
        rw [List.take_of_length_le (by have := HY.out; omega)] at this
        exact this
      clear HV ek
      cases ok with
      | false =>
        have HS : Hid (orbitsS gs ls = ([], 1)) := by
          show _ = _
          unfold orbitsS
          rw [if_neg (fun h => by have := HV2.out.2 h; cases this)]
        go_wp2
        go_ret2
        exact RetLE.none hE (by rw [HS.out])
      | true =>
        obtain ⟨hgb, hall⟩ := HV2.out.1 rfl
        have HGB := Lib.hid hgb
        have HALL := Lib.hid hall
        have hG : isG gs := by
          refine Classical.byContradiction fun h => ?_
          rw [isGB_false h] at hgb
          cases hgb
        have HG := Lib.hid hG
        have hn0 : 0 < q := by rw [← HX.out]; exact hG.pos
        clear hG hgb hall HV2
        obtain ⟨b1, o1, a0, nn, c0, rfl, g0, s0⟩ := hx.at (k := 0) hn0
        rw [Nat.add_zero] at g0
        have HL1 := Lib.hid s0.len
        obtain ⟨wo, rfl⟩ : ∃ wo : World, wo = wr := ⟨_, rfl⟩
        go_wp2
        go_loopw [8] (fun i wr => ∃ k : Nat, i = .int .i64 k ∧ k ≤ m ∧ Qt wo wr ∧ Hid ((ls.take k).all (fun m => decide (m.length = (gs.getD 0 []).length)) = true)) (fun i _ => m - (intOf i).toNat)
        case atStart => exact ⟨0, rfl, Nat.zero_le _, Qt.refl _, Lib.hid rfl⟩
        case round =>
          obtain ⟨k, rfl, hk, hQ, HV⟩ := hrel
          by_cases hlt : k < m
          · have hE2 := hE.trans hQ.ext
            obtain ⟨b2, o2, a2, n2, c2, rfl, g2, s2⟩ := (hyr.ext hQ.ext).at hlt
            have hkl : k < ls.length := by rw [HY.out]; exact hlt
            have g0 := hE2.cell g0
            have HL2 := Lib.hid s2.len
            have hq0 : (0 : Int) < (q : Int) := by omega
            by_cases hne : n2 = nn
            · have hnb : ((n2 : Int) != (nn : Int)) = false := by simp [hne]
              have HV2 := Lib.hid (all_step hkl HV.out (by rw [HL2.out, HL1.out]; simp [hne]))
              clear hne
              go_wp2
              go_quiet (fail)
              go_wp2
              go_roundw
              case rel => exact ⟨k + 1, by go_num, by omega, hQ.drewN _, HV2⟩
              case measure => simp [intOf]; omega
            · have hnb : ((n2 : Int) != (nn : Int)) = true := by simp; omega
              have HS : Hid (orbitsS gs ls = ([], 4)) := by
                show _ = _
                unfold orbitsS
                rw [if_pos ⟨HGB.out, HALL.out⟩, if_neg]
                rw [all_no hkl (by rw [HL2.out, HL1.out]; simp [hne])]
                simp
              clear hne
              go_wp2
              go_quiet (fail)
              go_wp2
              go_ret2
              exact RetLE.none (hE2.drewN _) (by rw [HS.out])
          · have hlen : Hid (ls.all (fun m => decide (m.length = (gs.getD 0 []).length)) = true) := by
              have := HV.out
              rw [List.take_of_length_le (by have := HY.out; omega)] at this
              exact this
            have ek : k = m := by omega
            have hE := hE.trans hQ.ext
            clear HV ek
            by_cases h64 : (64 : Int) < m
            · have HS : Hid (orbitsS gs ls = ([], 2)) := by
                show _ = _
                unfold orbitsS
                rw [if_pos ⟨HGB.out, HALL.out⟩, if_pos hlen.out, if_pos (by rw [HY.out]; omega)]
              go_wp2
              go_ret2
              exact RetLE.none hE (by rw [HS.out])
            · have HS : Hid (orbitsS gs ls = (orbS (ls.map (repS gs)), 0)) := by
                show _ = _
                unfold orbitsS
                rw [if_pos ⟨HGB.out, HALL.out⟩, if_pos hlen.out, if_neg (by rw [HY.out]; omega)]
              have HPN : Hid (PermsN gs nn) := by
                have := HG.out.perms
                rw [HL1.out] at this
                exact this
              have hn16 : nn ≤ 6 := by rw [← HL1.out]; exact (perm_spec (HG.out.perms _ (getD_mem HG.out.pos)).1).1
              obtain ⟨ks, hks⟩ : ∃ ks, ls.map (repS gs) = ks := ⟨_, rfl⟩
              have HKS := Lib.hid hks
              rw [hks] at HS
              clear hks
              have HKN : Hid (ks.length = m) := by
                show _ = _
                rw [← HKS.out, List.length_map, HY.out]
              have HLL : Hid (∀ i, i < m → (ls.getD i []).length = nn) := by
                show ∀ i, i < m → (ls.getD i []).length = nn
                intro i hi
                have := all_at hlen.out (k := i) (by rw [HY.out]; exact hi)
                rw [decide_eq_true_eq, HL1.out] at this
                exact this
              have HREL : Hid (∀ i k, i < m → k < m → (RelG gs (ls.getD i []) (ls.getD k []) ↔ ks.getD i [] = ks.getD k [])) := by
                show ∀ i k, i < m → k < m → (RelG gs (ls.getD i []) (ls.getD k []) ↔ ks.getD i [] = ks.getD k [])
                intro i k hi hk
                rw [rep_iff HG.out (by rw [HLL.out i hi, HL1.out]) (by rw [HLL.out k hk, HL1.out]), ← HKS.out]
                have e1 : i < ls.length := by rw [HY.out]; exact hi
                have e2 : k < ls.length := by rw [HY.out]; exact hk
                simp [List.getD_eq_getElem?_getD, e1, e2]
              obtain ⟨wq, rfl⟩ : ∃ wq : World, wq = wr := ⟨_, rfl⟩
              have hr0 := hE.size
              go_wp2_with (at_make; refine wl_mk rfl rfl Try.underlying62 info_bool rfl rfl rfl (by omega) (by unfold maxLen; omega) ?_; intro w3 hS3 hE3)
              have hS3 := hS3.mono hr0
              rw [← seenP_none] at hS3
              have hEw3 := hE.trans hE3
              clear hE3
              generalize wq.heap.size = S at *
              go_loopw [9, 11] (fun v iv wr => ∃ i : Nat, ∃ ao no co qc, v = .slice ao no co ∧ iv = .int .i64 i ∧ i ≤ m ∧ no ≤ i ∧ Ext w wr ∧ Own wr w.heap.size 4 (some ⟨S, 0, none⟩) m m (seenP m (fun j => decide (ks.getD j [] ∈ dk ks i))) ∧ OB wr w.heap.size ao no co qc ((dk ks i).map (idxL ks m))) (fun _ iv _ => m - (intOf iv).toNat)
              case atStart => exact ⟨0, none, 0, 0, [], rfl, rfl, Nat.zero_le _, Nat.le_refl _, hEw3, hS3, OB.nil _ _⟩
              case round =>
                clear hS3 hEw3
                obtain ⟨i, ao, no, co, qc, rfl, rfl, hi, hnoi, hE3, hS, hO⟩ := hrel
                by_cases hlt : i < m
                · have gs1 := Own.cellAt hS hlt
                  rw [seenP_at _ hlt] at gs1
                  by_cases hin : ks.getD i [] ∈ dk ks i
                  · simp only [hin, decide_true] at gs1
                    have HD : Hid (dk ks (i + 1) = dk ks i) := by
                      show _ = _
                      exact if_pos hin
                    clear hin
                    go_wp2
                    go_roundw
                    case rel => exact ⟨i + 1, ao, no, co, qc, rfl, by go_num, by omega, by omega, hE3, by rw [HD.out]; exact hS, by rw [HD.out]; exact hO⟩
                    case measure => simp [intOf]; omega
                  · simp only [hin, decide_false] at gs1
                    have HIN := Lib.hid hin
                    obtain ⟨wp, rfl⟩ : ∃ wp : World, wp = wr := ⟨_, rfl⟩
                    go_wp2
                    go_loopw [12, 13] (fun v kv wr => ∃ k : Nat, ∃ a1 n1 c1, v = .slice a1 n1 c1 ∧ kv = .int .i64 k ∧ i ≤ k ∧ k ≤ m ∧ n1 ≤ k ∧ Ext w wr ∧ Own wr w.heap.size 4 (some ⟨S, 0, none⟩) m m (seenP m (markP ks i k)) ∧ OB wr w.heap.size ao no co qc ((dk ks i).map (idxL ks m)) ∧ OwnI wr w.heap.size a1 n1 c1 (idxL ks k (ks.getD i [])) ∧ (∀ z, z < qc.length → sBlk (qc.getD z undef) = none ∨ sBlk (qc.getD z undef) ≠ blk a1)) (fun _ kv _ => m - (intOf kv).toNat)
                    case atStart =>
                      refine ⟨i, none, 0, 0, rfl, rfl, Nat.le_refl _, by omega, by omega, hE3, ?_, hO, ?_, ?_⟩
                      · rw [← seenP_congr (fun x _ => markP_start HIN.out x)]
                        exact hS
                      · rw [idxL_none HIN.out]
                        exact Own.nil _ _ _
                      · intro z hz
                        cases hq : sBlk (qc.getD z undef) with
                        | none => exact Or.inl rfl
                        | some y => exact Or.inr (by simp [blk])
                    case round =>
                      clear hS hO hE3 gs1
                      obtain ⟨k, a1, n1, c1, rfl, rfl, hik, hk, hn1k, hE3, hS, hO, hI, hdj⟩ := hrel
                      by_cases hkm : k < m
                      · obtain ⟨wp2, rfl⟩ : ∃ wp2 : World, wp2 = wr := ⟨_, rfl⟩
                        go_wp2
                        go_loopw [12, 14] (fun v jv wr => ∃ j : Nat, ∃ fd, ∃ a1 n1 c1, v = .slice a1 n1 c1 ∧ jv = .int .i64 j ∧ j ≤ q ∧ n1 ≤ k + 1 ∧ Ext w wr ∧ Own wr w.heap.size 4 (some ⟨S, 0, none⟩) m m (seenP m (fun x => markP ks i k x || (fd && decide (x = k)))) ∧ OB wr w.heap.size ao no co qc ((dk ks i).map (idxL ks m)) ∧ OwnI wr w.heap.size a1 n1 c1 (idxL ks k (ks.getD i []) ++ (if fd = true then [(k : Int)] else [])) ∧ (∀ z, z < qc.length → sBlk (qc.getD z undef) = none ∨ sBlk (qc.getD z undef) ≠ blk a1) ∧ Hid ((fd = true → RelG gs (ls.getD i []) (ls.getD k [])) ∧ (fd = false → n1 ≤ k ∧ ∀ z, z < j → mvd (gs.getD z []) (ls.getD i []) ≠ ls.getD k []))) (fun _ jv _ => q - (intOf jv).toNat)
                        case atStart =>
                          refine ⟨0, false, a1, n1, c1, rfl, rfl, Nat.zero_le _, by omega, hE3, ?_, hO, ?_, hdj, Lib.hid ⟨fun h => (by cases h), fun _ => ⟨hn1k, fun z hz => by omega⟩⟩⟩
                          · simpa using hS
                          · simpa using hI
                        case round =>
                          clear hS hO hE3 hI hdj hn1k
                          obtain ⟨j, fd, a1, n1, c1, rfl, rfl, hj, hn1k, hE3, hS, hO, hI, hdj, HFD⟩ := hrel
                          have gsk := Own.cellAt hS hkm
                          have gfk := Own.frozenAt hS k
                          rw [seenP_at _ hkm, decide_eq_true (rfl : k = k), Bool.and_true] at gsk
                          have HFIN := Lib.hid (fun (hfd : fd = true ↔ ks.getD k [] = ks.getD i []) => (⟨by
                              rw [← seenP_congr (fun x _ => markP_step hfd x)]
                              exact hS, by
                              rw [idxL_step hfd]
                              exact hI⟩ : Own wr w.heap.size 4 (some ⟨S, 0, none⟩) m m (seenP m (markP ks i (k + 1))) ∧ OwnI wr w.heap.size a1 n1 c1 (idxL ks (k + 1) (ks.getD i []))))
                          have HREL1 : Hid (fd = true → ks.getD k [] = ks.getD i []) := fun h => ((HREL.out i k hlt hkm).1 (HFD.out.1 h)).symm
                          by_cases hjq : j < q
                          · by_cases hseen : (markP ks i k k || fd) = true
                            · rw [hseen] at gsk
                              have hfd : Hid (fd = true ↔ ks.getD k [] = ks.getD i []) := by
                                show _ ↔ _
                                refine ⟨HREL1.out, fun h => ?_⟩
                                rw [markP_at, h, decide_eq_false HIN.out, Bool.false_or] at hseen
                                exact hseen
                              obtain ⟨hS2, hI2⟩ := HFIN.out hfd.out
                              clear hseen
                              go_wp2
                              go_roundw
                              case rel => exact ⟨k + 1, a1, n1, c1, rfl, by go_num, by omega, by omega, by omega, hE3, hS2, hO, hI2, hdj⟩
                              case measure => simp [intOf]; omega
                            · have hs0 : (markP ks i k k || fd) = false := by simpa using hseen
                              rw [hs0] at gsk
                              have hfd : fd = false := by
                                rw [Bool.or_eq_false_iff] at hs0
                                exact hs0.2
                              subst hfd
                              clear hseen hs0
                              obtain ⟨b3, o3, a3, n3, c3, e3, g3, s3⟩ := (hx.ext hE3).at hjq
                              simp only [Option.some.injEq, Addr.mk.injEq, and_true] at e3
                              obtain ⟨rfl, rfl⟩ := e3
                              obtain ⟨b2, o2, a4, n4, c4, rfl, g4, s4⟩ := (hy.ext hE3).at hlt
                              obtain ⟨b5, o5, a5, n5, c5, e5, g5, s5⟩ := (hy.ext hE3).at hkm
                              simp only [Option.some.injEq, Addr.mk.injEq, and_true] at e5
                              obtain ⟨rfl, rfl⟩ := e5
                              have hpk := HPN.out _ (getD_mem (l := gs) (i := j) (by rw [HX.out]; exact hjq))
                              have e3 : n3 = nn := by rw [← s3.len]; exact hpk.2
                              have e4 : n4 = nn := by rw [← s4.len]; exact HLL.out i hlt
                              have e5 : n5 = nn := by rw [← s5.len]; exact HLL.out k hkm
                              rw [e3] at s3 g3
                              rw [e4] at s4 g4
                              rw [e5] at s5 g5
                              clear e3 e4 e5
                              have hmv := fun (wx : World) (e : Ext wr wx) => ref_Moved (s3.ext e) (s4.ext e) hpk.1
                              have HNF : Hid (decide (mvd (gs.getD j []) (ls.getD i []) = ls.getD k []) = false → ∀ z, z < j + 1 → mvd (gs.getD z []) (ls.getD i []) ≠ ls.getD k []) := by
                                show _ → _
                                intro h z hz
                                by_cases he : z = j
                                · subst he
                                  simpa using h
                                · exact (HFD.out.2 rfl).2 z (by omega)
                              have HYF : Hid (decide (mvd (gs.getD j []) (ls.getD i []) = ls.getD k []) = true → RelG gs (ls.getD i []) (ls.getD k [])) := by
                                show _ → _
                                intro h
                                exact ⟨_, getD_mem (by rw [HX.out]; exact hjq), by simpa using h⟩
                              have hn1k' := (HFD.out.2 rfl).1
                              generalize mvd (gs.getD j []) (ls.getD i []) = mv at *
                              obtain ⟨lk, hlk⟩ : ∃ lk, ls.getD k [] = lk := ⟨_, rfl⟩
                              rw [hlk] at s5
                              have HLK := Lib.hid hlk
                              clear hlk hpk s3 s4
                              obtain ⟨eb, heb⟩ : ∃ eb, decide (mv = lk) = eb := ⟨_, rfl⟩
                              go_upto_region 28 with (fail)
                              go_cut [98] from 72 to 105 (fun s wx => ∃ b, s = .bool b ∧ Ext wr wx ∧ decide (mv = lk) = b)
                              case first =>
                                refine wp_region_typed (by kernel_rfl) (fun wx => Ext wr wx)
                                  [he (.slice (some ⟨b1, o1, none⟩) q c),
   he (.int .i64 (j : Int)),
   he (.pointer (some ⟨b1, (o1 + j), none⟩)),
   he (.slice a3 nn c3),
   he (.slice (some ⟨b2, o2, none⟩) m d),
   he (.int .i64 (i : Int)),
   he (.pointer (some ⟨b2, (o2 + i), none⟩)),
   he (.slice a4 nn c4),
   hp (fun v wx => ∃ a' n' c', v = .slice a' n' c' ∧ SlI wx a' n' c' mv),
   he (.slice (some ⟨b2, o2, none⟩) m d),
   he (.int .i64 (k : Int)),
   he (.pointer (some ⟨b2, (o2 + k), none⟩)),
   he (.slice a5 nn c5),
   hp (fun v wx => v = .bool eb)]
                                  (by kernel_rfl) (fun _ _ e h => h.trans e) ((Ext.refl wr).drew) ⟨trivial, trivial, trivial, trivial, trivial, trivial, trivial, trivial, fun v w w' e ⟨a', n', c', h1, h2⟩ => ⟨a', n', c', h1, h2.ext e⟩, trivial, trivial, trivial, trivial, fun v w w' e h => h, trivial⟩ ⟨?o0, ?o1, ?o2, ?o3, ?o4, ?o5, ?o6, ?o7, ?o8, ?o9, ?o10, ?o11, ?o12, ?o13, trivial⟩ ?fin
                                case o0 => exact obl_pmove rfl (.inl rfl) (fun _ _ _ h => h.1)
                                case o1 => exact obl_pmove rfl (.inl rfl) (fun _ _ _ h => h.1)
                                case o2 =>
                                  refine obl_pure rfl ?_
                                  intro ρ wx hp hC h
                                  have hcst := hp.const
                                  have e0 : ρ (.tmp 85) = (.slice (some ⟨b1, o1, none⟩) q c) := h.1
                                  have e1 : ρ (.tmp 86) = (.int .i64 (j : Int)) := h.2.1
                                  have hg3 := hC.cell g3
                                  have hg4 := hC.cell g4
                                  have hg5 := hC.cell g5
                                  go_simp
                                  try (first | (intros; omega) | exact IntWalk.i64_in _ (by omega))
                                case o3 =>
                                  refine obl_pure rfl ?_
                                  intro ρ wx hp hC h
                                  have hcst := hp.const
                                  have e0 : ρ (.tmp 87) = (.pointer (some ⟨b1, (o1 + j), none⟩)) := h.1
                                  have hg3 := hC.cell g3
                                  have hg4 := hC.cell g4
                                  have hg5 := hC.cell g5
                                  go_simp
                                case o4 => exact obl_pmove rfl (.inl rfl) (fun _ _ _ h => h.1)
                                case o5 => exact obl_pmove rfl (.inl rfl) (fun _ _ _ h => h.1)
                                case o6 =>
                                  refine obl_pure rfl ?_
                                  intro ρ wx hp hC h
                                  have hcst := hp.const
                                  have e0 : ρ (.tmp 89) = (.slice (some ⟨b2, o2, none⟩) m d) := h.1
                                  have e1 : ρ (.tmp 90) = (.int .i64 (i : Int)) := h.2.1
                                  have hg3 := hC.cell g3
                                  have hg4 := hC.cell g4
                                  have hg5 := hC.cell g5
                                  go_simp
                                  try (first | (intros; omega) | exact IntWalk.i64_in _ (by omega))
                                case o7 =>
                                  refine obl_pure rfl ?_
                                  intro ρ wx hp hC h
                                  have hcst := hp.const
                                  have e0 : ρ (.tmp 91) = (.pointer (some ⟨b2, (o2 + i), none⟩)) := h.1
                                  have hg3 := hC.cell g3
                                  have hg4 := hC.cell g4
                                  have hg5 := hC.cell g5
                                  go_simp
                                case o8 =>
                                  refine obl_call rfl ?_
                                  intro ρ wx hp hC h
                                  have hcst := hp.const
                                  have hfn := hp.func
                                  have e1 : ρ (.tmp 88) = (.slice a3 nn c3) := h.2.1
                                  have e2 : ρ (.tmp 92) = (.slice a4 nn c4) := h.2.2.1
                                  have hg3 := hC.cell g3
                                  have hg4 := hC.cell g4
                                  have hg5 := hC.cell g5
                                  refine ⟨46, #[.slice a3 nn c3, .slice a4 nn c4], by go_simp, (hmv wx hC).mono ?_⟩
                                  rintro e w' ⟨a', n', c', rfl, hE', hO'⟩
                                  exact ⟨_, rfl, hE', a', n', c', rfl, hO'.sl⟩
                                case o9 => exact obl_pmove rfl (.inl rfl) (fun _ _ _ h => h.1)
                                case o10 => exact obl_pmove rfl (.inl rfl) (fun _ _ _ h => h.1)
                                case o11 =>
                                  refine obl_pure rfl ?_
                                  intro ρ wx hp hC h
                                  have hcst := hp.const
                                  have e0 : ρ (.tmp 94) = (.slice (some ⟨b2, o2, none⟩) m d) := h.1
                                  have e1 : ρ (.tmp 95) = (.int .i64 (k : Int)) := h.2.1
                                  have hg3 := hC.cell g3
                                  have hg4 := hC.cell g4
                                  have hg5 := hC.cell g5
                                  go_simp
                                  try (first | (intros; omega) | exact IntWalk.i64_in _ (by omega))
                                case o12 =>
                                  refine obl_pure rfl ?_
                                  intro ρ wx hp hC h
                                  have hcst := hp.const
                                  have e0 : ρ (.tmp 96) = (.pointer (some ⟨b2, (o2 + k), none⟩)) := h.1
                                  have hg3 := hC.cell g3
                                  have hg4 := hC.cell g4
                                  have hg5 := hC.cell g5
                                  go_simp
                                case o13 =>
                                  refine obl_call rfl ?_
                                  intro ρ wx hp hC h
                                  have hcst := hp.const
                                  have hfn := hp.func
                                  obtain ⟨v1, e1, a1, n1, c1, rfl, s1⟩ := h.2.1
                                  have e2 : ρ (.tmp 97) = (.slice a5 nn c5) := h.2.2.1
                                  have hg3 := hC.cell g3
                                  have hg4 := hC.cell g4
                                  have hg5 := hC.cell g5
                                  refine ⟨33, #[.slice a1 n1 c1, .slice a5 nn c5], by go_simp, (slices_Equal s1 (s5.ext hC)).mono ?_⟩
                                  rintro e w' ⟨rfl, hQ'⟩
                                  exact ⟨_, rfl, hQ'.ext, by rw [heb]⟩
                                case fin =>
                                  intro wx hC
                                  rintro _ ⟨a93, n93, c93, rfl, s93⟩
                                  rintro _ rfl
                                  change wpList _ _ _ _ _ _
                                  simp only [List.length_cons, List.length_nil, List.drop_succ_cons, List.drop_zero, Act.put, List.setIfInBounds_toArray, List.set_cons_succ, List.set_cons_zero]
                                  go_wp2
                                  go_meet
                                  exact ⟨eb, rfl, hC, heb⟩
                              case rest =>
                                obtain ⟨b, rfl, hE4, hb⟩ := hcut
                                have hE34 := hE3.trans hE4
                                have hS4 := hS.ext hE4
                                have hO4 := hO.ext hE4
                                have hI4 := hI.ext hE4
                                have gsk4 := hE4.cell gsk
                                have gfk4 := Own.frozenAt hS4 k
                                clear hS hO hI gsk gfk hmv g3 g4 g5 s5 heb HFIN
                                cases b with
                                | false =>
                                  have HFD2 : Hid ((false = true → RelG gs (ls.getD i []) (ls.getD k [])) ∧ (false = false → n1 ≤ k ∧ ∀ z, z < j + 1 → mvd (gs.getD z []) (ls.getD i []) ≠ ls.getD k [])) :=
                                    ⟨fun h => (by cases h), fun _ => ⟨hn1k', HNF.out (by rw [HLK.out]; exact hb)⟩⟩
                                  clear hb
                                  go_wp2
                                  go_roundw
                                  case rel => exact ⟨j + 1, false, a1, n1, c1, rfl, by go_num, by omega, hn1k, hE34, hS4, hO4, hI4, hdj, HFD2⟩
                                  case measure => simp [intOf]; omega
                                | true =>
                                  have HFD2 : Hid ((true = true → RelG gs (ls.getD i []) (ls.getD k [])) ∧ (true = false → n1 + 1 ≤ k ∧ ∀ z, z < j + 1 → mvd (gs.getD z []) (ls.getD i []) ≠ ls.getD k [])) :=
                                    ⟨fun _ => HYF.out (by rw [HLK.out]; exact hb), fun h => by cases h⟩
                                  clear hb
                                  simp only [Bool.false_eq_true, if_false, List.append_nil] at hI4
                                  have hset := grown_setCell wc S k (.bool true)
                                  have hS5 := Own.stored hS4 k (.bool true)
                                  have hI5 : OwnI _ w.heap.size a1 n1 c1 _ := Own.kept hI4 hset (own_ne_own hI4 hS4 (by decide))
                                  have hO5 := hO4.keep hset (own_ne_own hO4.row hS4 (by decide)) (hO4.ne_ty hS4 (by decide))
                                  have hE5 : Ext w (wc.setCell ⟨S, k, none⟩ (.bool true)) := hE34.setCell hr0 _
                                  clear hset
                                  go_upto_region 30 with (fail)
                                  generalize wc.setCell ⟨S, k, none⟩ (.bool true) = w5 at *
                                  have hA6 : Ext w5 (w5.alloc (.cells #[.int .i64 k] 3)) := (Ext.refl _).alloc _
                                  have hX6 := (own_alloc w5 w.heap.size 3 #[.int .i64 k] 1 rfl hE5.size (by omega)).sl
                                  have hS6 := hS5.ext hA6
                                  have hI6 := hI5.ext hA6
                                  have hO6 := hO5.ext hA6
                                  go_wp2_with (refine wl_app rfl rfl Try.underlying22 info_int rfl rfl hI6 rfl hX6 (by simp [Value.oneCell']) (by unfold maxLen; omega) (by omega) (by have := (hE5.trans hA6).size; omega) ?_; intro a7 c7 w7 hI7 hg7 hb7)
                                  go_roundw
                                  case rel =>
                                    have hE7 : Ext w w7 := (hE5.trans hA6).grown hg7 (fun q hq => (Own.lt hI6 hq).1)
                                    refine ⟨j + 1, true, a7, n1 + 1, c7, by first | rfl | go_num, by go_num, by omega, by omega, hE7, ?_, ?_, ?_, ?_, HFD2⟩
                                    · have := hS6.kept hg7 (own_ne_own hS6 hI6 (by decide))
                                      rw [seenP_set] at this
                                      simpa using this
                                    · exact hO6.keep hg7 (own_ne_own hO6.row hI6 (by decide)) hdj
                                    · rw [if_pos rfl]
                                      exact own_snoc hI7
                                    · intro z hz
                                      rcases hdj z hz with h | h
                                      · exact Or.inl h
                                      · rcases hb7 with h7 | h7
                                        · right; rw [h7]; exact h
                                        · right
                                          rw [h7]
                                          intro he
                                          have := hO6.blkLt hz he
                                          omega
                                  case measure => simp [intOf]; omega
                          · have hjq' : j = q := by omega
                            have hfd : Hid (fd = true ↔ ks.getD k [] = ks.getD i []) := by
                              show _ ↔ _
                              refine ⟨HREL1.out, fun h => ?_⟩
                              cases hf : fd with
                              | true => rfl
                              | false =>
                                obtain ⟨g, hg, e⟩ := (HREL.out i k hlt hkm).2 h.symm
                                obtain ⟨z, hz, rfl⟩ := mem_getD hg
                                exact absurd e ((HFD.out.2 hf).2 z (by have := HX.out; omega))
                            obtain ⟨hS2, hI2⟩ := HFIN.out hfd.out
                            clear hjq'
                            go_wp2
                            go_roundw
                            case rel => exact ⟨k + 1, a1, n1, c1, rfl, by go_num, by omega, by omega, by omega, hE3, hS2, hO, hI2, hdj⟩
                            case measure => simp [intOf]; omega
                      · have ek : k = m := by omega
                        have HD : Hid (dk ks (i + 1) = dk ks i ++ [ks.getD i []]) := by
                          show _ = _
                          exact if_neg HIN.out
                        have hS2 : Own wr w.heap.size 4 (some ⟨S, 0, none⟩) m m (seenP m (fun j => decide (ks.getD j [] ∈ dk ks (i + 1)))) := by
                          rw [← seenP_congr (fun x hx => markP_end HIN.out hx), ← ek]
                          rw [ek]
                          rw [ek] at hS
                          exact hS
                        have hI2 : OwnI wr w.heap.size a1 n1 c1 (idxL ks m (ks.getD i [])) := by
                          rw [← ek]
                          exact hI
                        clear hS hI ek
                        have hA6 : Ext wr (wr.alloc (.cells #[.slice a1 n1 c1] 22)) := (Ext.refl _).alloc _
                        have hX6 := (own_alloc wr w.heap.size 22 #[.slice a1 n1 c1] 1 rfl hE3.size (by omega)).sl
                        have hO6 := hO.ext hA6
                        have hI6 := hI2.ext hA6
                        have hS6 := hS2.ext hA6
                        go_wp2_with (refine wl_app rfl rfl Try.underlying35 info_ints rfl rfl hO6.row rfl hX6 (by simp [Value.oneCell']) (by unfold maxLen; omega) (by omega) (by have := (hE3.trans hA6).size; omega) ?_; intro a7 c7 w7 hO7 hg7 hb7)
                        go_roundw
                        case rel =>
                          have hE7 : Ext w w7 := (hE3.trans hA6).grown hg7 (fun q hq => (hO6.row.lt hq).1)
                          refine ⟨i + 1, a7, no + 1, c7, qc ++ [.slice a1 n1 c1], by first | rfl | go_num, by go_num, by omega, by omega, hE7, hS6.kept hg7 (own_ne_own hS6 hO6.row (by decide)), ?_⟩
                          rw [HD.out, List.map_append]
                          exact hO6.snoc hO7 hg7 hI6 hdj
                        case measure => simp [intOf]; omega
                · have ek : i = m := by omega
                  have HF : Hid (orbitsS gs ls = ((dk ks i).map (idxL ks m), 0)) := by
                    show _ = _
                    rw [HS.out, ek, ← HKN.out]
                    rfl
                  go_wp2
                  go_ret2
                  rw [HF.out]
                  exact ⟨ao, no, co, rfl, hE3, hO.slL⟩

end Go.Proofs.Ytegmbdkdgpeahaa
