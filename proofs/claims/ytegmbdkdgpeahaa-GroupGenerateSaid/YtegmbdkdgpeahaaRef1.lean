/- The contracts of the reference's functions on permutations: Valid, Unit, Product, Compose, Inverse, Order. -/
import Derived.Test.YtegmbdkdgpeahaaOrd
namespace Go.Proofs.Ytegmbdkdgpeahaa
open Go Go.RowKit

theorem info_bool : Elem1 Try.prog 4 (.bool false) 1 := by unfold Elem1; kernel_rfl

/-- which of the first n numbers are in the list -/
def seenN (n : Nat) (l : List Int) : List Value := (List.range n).map (fun (j : Nat) => Value.bool (decide (Int.ofNat j ∈ l)))
theorem seenN_len (n : Nat) (l : List Int) : (seenN n l).length = n := by simp [seenN]
theorem seenN_nil (n : Nat) : seenN n [] = List.replicate n (Value.bool false) := by
  unfold seenN
  simp only [List.not_mem_nil, decide_false]
  rw [List.map_const', List.length_range]
theorem seenN_at {n : Nat} (l : List Int) {j : Nat} (h : j < n) : (seenN n l).getD j undef = .bool (decide ((j : Int) ∈ l)) := by
  simp [seenN, List.getD_eq_getElem?_getD, h]
theorem seenN_set (n : Nat) (l : List Int) {x : Int} (h0 : 0 ≤ x) : (seenN n l).set x.toNat (.bool true) = seenN n (l ++ [x]) := by
  apply List.ext_getElem
  · simp [seenN_len]
  · intro i h1 h2
    rw [List.getElem_set]
    by_cases hi : x.toNat = i
    · rw [if_pos hi]
      have : (i : Int) = x := by omega
      simp [seenN, this]
    · rw [if_neg hi]
      have : (i : Int) ≠ x := by omega
      simp [seenN, this]


set_option maxHeartbeats 400000 in
theorem ref_Valid {a : Option Addr} {n c : Nat} {xs : List Int} {w : World} (hx : SlI w a n c xs) :
    Calls Try.prog 24 #[.slice a n c] w fun e w' => e = .returned (.bool (permB xs)) ∧ Ext w w' := by
  have hnn := hx.le
  have hl := hx.len
  have HL := Lib.hid hl
  by_cases h6 : n ≤ 6
  · clear hl
    go_enter Try.func24, Try.ntmps24
    go_wp2_with (at_make; refine wl_mk rfl rfl Try.underlying62 info_bool rfl rfl rfl (by omega) (by unfold maxLen; omega) ?_; intro w1 hO1 hE1)
    go_loopw [4] (fun i wr => ∃ k : Nat, k ≤ n ∧ i = .int .i64 k ∧ Ext w wr ∧ Own wr w.heap.size 4 (some ⟨w.heap.size, 0, none⟩) n n (seenN n (xs.take k)) ∧ goodTo xs k) (fun i _ => n - (intOf i).toNat)
    case atStart => exact ⟨0, Nat.zero_le _, rfl, hE1, by rw [show xs.take 0 = [] from rfl, seenN_nil]; exact hO1, by simp [goodTo]⟩
    case round =>
      clear hO1 hE1
      obtain ⟨k, hk, rfl, hE, hA, hG⟩ := hrel
      have hx := hx.ext hE
      by_cases hlt : k < n
      · obtain ⟨b2, o2, rfl, hc2⟩ := hx.at hlt
        have g3 := hc2 k hlt
        have hkl : k < xs.length := by have := HL.out; omega
        have ek : xs.take (k + 1) = xs.take k ++ [xs.getD k 0] := by
          rw [List.take_succ_eq_append_getElem hkl]
          simp [List.getD_eq_getElem?_getD, hkl]
        have po := @perm_out xs k hkl
        have pt := @perm_twice xs k hkl
        have ps := @goodTo_succ xs k hkl hG
        generalize hyk : xs.getD k 0 = y at *
        have EK := Lib.hid ek
        have PO := Lib.hid po
        have PT := Lib.hid pt
        have PS := Lib.hid ps
        clear hc2 hyk ek po pt ps
        by_cases hy0 : y < 0
        · go_wp2
          go_ret
          exact ⟨retB (PO.out (Or.inl hy0)), hE⟩
        · by_cases hy1 : (n : Int) ≤ y
          · go_wp2
            go_ret
            exact ⟨retB (PO.out (Or.inr (by have := HL.out; omega))), hE⟩
          · have hy6 : y.toNat < 6 := by omega
            have hy6' : y < 6 := by omega
            have hcy := Own.cellAt hA (j := y.toNat) (by omega)
            have hfy := Own.frozenAt hA y.toNat
            rw [seenN_at _ (by omega), show ((y.toNat : Nat) : Int) = y from by omega] at hcy
            by_cases hs : y ∈ xs.take k
            · simp only [hs, decide_true] at hcy
              go_wp2
              go_ret
              exact ⟨retB (PT.out hs), hE⟩
            · simp only [hs, decide_false] at hcy
              go_wp2
              go_roundw
              case rel =>
                refine ⟨k+1, by omega, by go_num, hE.setCell (Nat.le_refl _) _, ?_, PS.out (by omega) (by have := HL.out; omega) hs⟩
                have := Own.stored hA y.toNat (.bool true)
                rw [seenN_set _ _ (by omega), ← EK.out] at this
                exact this
              case measure => simp [intOf]; omega
      · go_wp2
        go_ret
        exact ⟨retB (goodTo_all (by have := HL.out; omega) hG (by have := HL.out; omega)), hE⟩
  · clear hl
    go_enter Try.func24, Try.ntmps24
    go_wp2
    go_ret
    exact ⟨retB (perm_long (by have := HL.out; omega)), Ext.refl w⟩

set_option maxHeartbeats 400000 in
theorem ref_Unit {n : Nat} {w : World} (hn : n ≤ 1000000) :
    Calls Try.prog 39 #[.int .i64 n] w (RetI w (idn n)) := by
  go_enter Try.func39, Try.ntmps39
  go_wp2_with (at_make; refine wl_mk rfl rfl Try.underlying22 info_int rfl rfl rfl (by omega) (by unfold maxLen; omega) ?_; intro w1 hO1 hE1)
  go_loopw [4] (fun i wr => ∃ k : Nat, k ≤ n ∧ i = .int .i64 k ∧ Ext w wr ∧ OwnI wr w.heap.size (some ⟨w.heap.size, 0, none⟩) n n (fillI n (idn k))) (fun i _ => n - (intOf i).toNat)
  case atStart => exact ⟨0, Nat.zero_le _, rfl, hE1, by unfold OwnI; rw [show idn 0 = [] from rfl, fillI_nil]; exact hO1⟩
  case round =>
    clear hO1 hE1
    obtain ⟨k, hk, rfl, hE, hO⟩ := hrel
    by_cases hlt : k < n
    · have g1 := Own.cellAt hO hlt
      have g2 := Own.frozenAt hO k
      have hz := hE.size
      go_wp2
      go_roundw
      case rel =>
        refine ⟨k+1, by omega, by go_num, hE.setCell (Nat.le_refl _) _, ?_⟩
        have := Own.stored hO k (.int .i64 k)
        rw [fillI_set (idn_len k) hlt, ← idn_succ] at this
        exact this
      case measure => simp [intOf]; omega
    · have e : k = n := by omega
      go_wp2
      go_ret
      subst e
      rw [fillI_full (by rw [idn_len]; exact Nat.le_refl _)] at hO
      exact ⟨_, _, _, rfl, hE, hO⟩

set_option maxHeartbeats 400000 in
theorem ref_Product {a b : Option Addr} {c m d : Nat} {xs ys : List Int} {w : World} (hx : SlI w a m c xs) (hy : SlI w b m d ys)
    (hin : ∀ i, i < m → 0 ≤ ys.getD i 0 ∧ ys.getD i 0 < m) (hm : m ≤ 1000000) :
    Calls Try.prog 42 #[.slice a m c, .slice b m d] w (RetI w (comp xs ys)) := by
  have hnn := hx.le
  go_enter Try.func42, Try.ntmps42
  go_wp2_with (at_make; refine wl_mk rfl rfl Try.underlying22 info_int rfl rfl rfl (by omega) (by unfold maxLen; omega) ?_; intro w1 hO1 hE1)
  go_loopw [6] (fun i wr => ∃ k : Nat, k ≤ m ∧ i = .int .i64 k ∧ Ext w wr ∧ OwnI wr w.heap.size (some ⟨w.heap.size, 0, none⟩) m m (fillI m (comp xs (ys.take k)))) (fun i _ => m - (intOf i).toNat)
  case atStart => exact ⟨0, Nat.zero_le _, rfl, hE1, by unfold OwnI; rw [show comp xs (ys.take 0) = [] from rfl, fillI_nil]; exact hO1⟩
  case round =>
    clear hO1 hE1
    obtain ⟨k, hk, rfl, hE, hO⟩ := hrel
    have hx := hx.ext hE
    have hy := hy.ext hE
    by_cases hlt : k < m
    · have g1 := Own.cellAt hO hlt
      have g2 := Own.frozenAt hO k
      have hz := hE.size
      obtain ⟨b2, o2, rfl, hc2⟩ := hy.at hlt
      have g3 := hc2 k hlt
      have hik := hin k hlt
      have hyl := hy.len
      have ek : ys.take (k + 1) = ys.take k ++ [ys.getD k 0] := by
        rw [List.take_succ_eq_append_getElem (by omega)]
        simp [List.getD_eq_getElem?_getD, hyl, hlt]
      generalize hyk : ys.getD k 0 = y at *
      obtain ⟨b1, o1, rfl, hc1⟩ := hx.at (k := y.toNat) (by omega)
      have g4 := hc1 y.toNat (by omega)
      obtain ⟨y0, y1⟩ := hik
      have EK := Lib.hid ek
      clear hc1 hc2 hyk hin hyl ek
      go_wp2
      go_roundw
      case rel =>
        refine ⟨k+1, by omega, by go_num, hE.setCell (Nat.le_refl _) _, ?_⟩
        have := Own.stored hO k (.int .i64 (xs.getD y.toNat 0))
        rw [fillI_set (by rw [comp_len]; have := hy.len; simp; omega) hlt] at this
        rw [EK.out]
        simpa [comp, OwnI] using this
      case measure => simp [intOf]; omega
    · have e : k = m := by omega
      go_wp2
      go_ret
      subst e
      have hyl := hy.len
      rw [List.take_of_length_le (by omega), fillI_full (by rw [comp_len]; omega)] at hO
      exact ⟨_, _, _, rfl, hE, hO⟩

set_option maxHeartbeats 400000 in
theorem ref_Compose {a b : Option Addr} {n c m d : Nat} {xs ys : List Int} {w : World} (hx : SlI w a n c xs) (hy : SlI w b m d ys) :
    Calls Try.prog 21 #[.slice a n c, .slice b m d] w (RetIE w (composeS xs ys).1 (composeS xs ys).2) := by
  have HX := Lib.hid hx.len
  have HY := Lib.hid hy.len
  by_cases p1 : permB xs = true
  · by_cases p2 : permB ys = true
    · by_cases hl : n = m
      · have hne : ((n:Int) != (m:Int)) = false := by simp [hl]
        have HL := Lib.hid hl
        have HS : Hid (composeS xs ys = (comp xs ys, 0)) := by
          show composeS xs ys = (comp xs ys, 0)
          unfold composeS
          rw [if_pos ⟨p1, p2⟩, if_pos (by rw [HX.out, HY.out, hl])]
        clear hl
        go_enter Try.func21, Try.ntmps21
        go_wp2_with fail
        refine (ref_Valid hx).mono ?_
        rintro e w1 ⟨rfl, hE1⟩
        go_wp2_with fail
        refine (ref_Valid (hy.ext hE1)).mono ?_
        rintro e w2 ⟨rfl, hE2⟩
        go_wp2_with fail
        have hE := hE1.trans hE2
        have hxm := hx.ext hE
        rw [HL.out] at hxm ⊢
        refine (ref_Product hxm (hy.ext hE) ?_ ?_).mono ?_
        · intro i hi
          have := perm_at p2 (i := i) (by have := HY.out; omega)
          have h1 := HY.out
          have h2 := HL.out
          omega
        · have := (perm_spec p2).1
          have h1 := HY.out
          omega
        rintro e w3 ⟨a3, n3, c3, rfl, hE3, hO3⟩
        go_wp2
        go_ret2
        rw [HS.out]
        exact ⟨a3, n3, c3, rfl, hE.trans hE3, Own.mono hO3 hE.size⟩
      · have hne : ((n:Int) != (m:Int)) = true := by simp; omega
        have HS : Hid (composeS xs ys = ([], 4)) := by
          show composeS xs ys = ([], 4)
          unfold composeS
          rw [if_pos ⟨p1, p2⟩, if_neg (by rw [HX.out, HY.out]; exact hl)]
        go_enter Try.func21, Try.ntmps21
        go_wp2_with fail
        refine (ref_Valid hx).mono ?_
        rintro e w1 ⟨rfl, hE1⟩
        go_wp2_with fail
        refine (ref_Valid (hy.ext hE1)).mono ?_
        rintro e w2 ⟨rfl, hE2⟩
        go_wp2
        go_ret2
        rw [HS.out]
        exact ⟨none, 0, 0, rfl, hE1.trans hE2, Own.nil _ _ _⟩
    · have p2' : permB ys = false := by simpa using p2
      have HS : Hid (composeS xs ys = ([], 1)) := by
        show composeS xs ys = ([], 1)
        unfold composeS
        rw [if_neg (fun h => p2 h.2)]
      go_enter Try.func21, Try.ntmps21
      go_wp2_with fail
      refine (ref_Valid hx).mono ?_
      rintro e w1 ⟨rfl, hE1⟩
      go_wp2_with fail
      refine (ref_Valid (hy.ext hE1)).mono ?_
      rintro e w2 ⟨rfl, hE2⟩
      go_wp2
      go_ret2
      rw [HS.out]
      exact ⟨none, 0, 0, rfl, hE1.trans hE2, Own.nil _ _ _⟩
  · have p1' : permB xs = false := by simpa using p1
    have HS : Hid (composeS xs ys = ([], 1)) := by
      show composeS xs ys = ([], 1)
      unfold composeS
      rw [if_neg (fun h => p1 h.1)]
    go_enter Try.func21, Try.ntmps21
    go_wp2_with fail
    refine (ref_Valid hx).mono ?_
    rintro e w1 ⟨rfl, hE1⟩
    go_wp2
    go_ret2
    rw [HS.out]
    exact ⟨none, 0, 0, rfl, hE1, Own.nil _ _ _⟩

set_option maxHeartbeats 400000 in
theorem ref_Inverse {a : Option Addr} {n c : Nat} {xs : List Int} {w : World} (hx : SlI w a n c xs) :
    Calls Try.prog 22 #[.slice a n c] w (RetIE w (inverseS xs).1 (inverseS xs).2) := by
  have HX := Lib.hid hx.len
  have hnn := hx.le
  by_cases p1 : permB xs = true
  · have h6 : n ≤ 6 := by have := (perm_spec p1).1; have h := HX.out; omega
    have HS : Hid (inverseS xs = (invTo xs xs.length, 0)) := by
      show inverseS xs = _
      unfold inverseS
      rw [if_pos p1]
    go_enter Try.func22, Try.ntmps22
    go_wp2_with fail
    refine (ref_Valid hx).mono ?_
    rintro e w1 ⟨rfl, hE1⟩
    go_wp2_with (at_make; refine wl_mk rfl rfl Try.underlying22 info_int rfl rfl rfl (by omega) (by unfold maxLen; omega) ?_; intro w2 hO2 hE2)
    go_loopw [5] (fun i wr => ∃ k : Nat, k ≤ n ∧ i = .int .i64 k ∧ Ext w1 wr ∧ OwnI wr w1.heap.size (some ⟨w1.heap.size, 0, none⟩) n n (invTo xs k)) (fun i _ => n - (intOf i).toNat)
    case atStart => exact ⟨0, Nat.zero_le _, rfl, hE2, by unfold OwnI; rw [show invTo xs 0 = List.replicate xs.length 0 from rfl, HX.out]; simpa using hO2⟩
    case round =>
      clear hO2 hE2
      obtain ⟨k, hk, rfl, hE, hO⟩ := hrel
      have hx := (hx.ext hE1).ext hE
      by_cases hlt : k < n
      · obtain ⟨b2, o2, rfl, hc2⟩ := hx.at hlt
        have g3 := hc2 k hlt
        have hik := perm_at p1 (i := k) (by have := HX.out; omega)
        have e1 : invTo xs (k + 1) = (invTo xs k).set (xs.getD k 0).toNat k := rfl
        rw [HX.out] at hik
        generalize hyk : xs.getD k 0 = y at *
        obtain ⟨y0, y1⟩ := hik
        have g1 := Own.cellAt hO (j := y.toNat) (by omega)
        have g2 := Own.frozenAt hO y.toNat
        have EK := Lib.hid e1
        clear hc2 hyk e1
        go_wp2
        go_roundw
        case rel =>
          refine ⟨k+1, by omega, by go_num, hE.setCell (Nat.le_refl _) _, ?_⟩
          have := Own.stored hO y.toNat (.int .i64 k)
          unfold OwnI
          rw [EK.out, List.map_set]
          exact this
        case measure => simp [intOf]; omega
      · have e : k = n := by omega
        go_wp2
        go_ret2
        rw [HS.out, HX.out]
        subst e
        exact ⟨_, _, _, rfl, hE1.trans hE, Own.mono hO hE1.size⟩
  · have p1' : permB xs = false := by simpa using p1
    have HS : Hid (inverseS xs = ([], 1)) := by
      show inverseS xs = ([], 1)
      unfold inverseS
      rw [if_neg p1]
    go_enter Try.func22, Try.ntmps22
    go_wp2_with fail
    refine (ref_Valid hx).mono ?_
    rintro e w1 ⟨rfl, hE1⟩
    go_wp2
    go_ret2
    rw [HS.out]
    exact ⟨none, 0, 0, rfl, hE1, Own.nil _ _ _⟩

set_option maxHeartbeats 400000 in
theorem ref_Order {a : Option Addr} {n c : Nat} {xs : List Int} {w : World} (hx : SlI w a n c xs) :
    Calls Try.prog 25 #[.slice a n c] w fun e w' => e = .returned (.tuple #[.int .i64 (orderS xs).1, .int .i64 (orderS xs).2]) ∧ Ext w w' := by
  have HX := Lib.hid hx.len
  have hnn := hx.le
  by_cases p1 : permB xs = true
  · have h6 : n ≤ 6 := by have := (perm_spec p1).1; have h := HX.out; omega
    have HS : Hid (orderS xs = ((ordS xs : Int), 0)) := by
      show orderS xs = _
      unfold orderS
      rw [if_pos p1]
    obtain ⟨o1, o2, o3, o4⟩ := ord_spec p1
    have O3 := Lib.hid o3
    have O4 := Lib.hid o4
    clear o3 o4
    go_enter Try.func25, Try.ntmps25
    go_wp2_with fail
    refine (ref_Valid hx).mono ?_
    rintro e w1 ⟨rfl, hE1⟩
    have hx2 := hx.ext hE1
    go_wp2_with fail
    go_loopw [4, 5] (fun i v wr => ∃ k : Nat, ∃ a' c', 1 ≤ k ∧ k ≤ ordS xs ∧ i = .int .i64 k ∧ v = .slice a' n c' ∧ Ext w1 wr ∧ SlI wr a' n c' (pw xs k)) (fun i _ _ => ordS xs - (intOf i).toNat)
    case atStart => exact ⟨1, a, c, Nat.le_refl _, o1, rfl, rfl, Ext.refl _, by rw [pw_one]; exact hx2⟩
    case round =>
      obtain ⟨k, a', c', hk1, hk, rfl, rfl, hE, hP⟩ := hrel
      by_cases hid : pw xs k = idn n
      · have hd : decide (pw xs k = idn n) = true := by simp [hid]
        have ek : k = ordS xs := by
          rcases Nat.lt_or_ge k (ordS xs) with h | h
          · exact absurd (by rw [hid, HX.out]) (O4.out k hk1 h)
          · omega
        have EK := Lib.hid ek
        clear ek hid
        go_wp2_with fail
        refine (ref_Unit (by omega)).mono ?_
        rintro e w2 ⟨a2, n2, c2, rfl, hE2, hO2⟩
        have hs2 := OwnI.sl hO2
        have hP := hP.ext hE2
        have hE := hE.trans hE2
        clear hO2
        go_wp2_with fail
        refine (slices_Equal hP hs2).mono ?_
        rintro e w3 ⟨rfl, hQ3⟩
        go_wp2
        go_ret2
        rw [HS.out]
        refine ⟨?_, (hE1.trans hE).trans hQ3.ext⟩
        rw [← EK.out]
        rfl
      · have hd : decide (pw xs k = idn n) = false := by simp [hid]
        have hko : k < ordS xs := by
          rcases Nat.lt_or_ge k (ordS xs) with h | h
          · exact h
          · have e : k = ordS xs := by omega
            exact absurd (by rw [e, O3.out, HX.out]) hid
        clear hid
        go_wp2_with fail
        refine (ref_Unit (by omega)).mono ?_
        rintro e w2 ⟨a2, n2, c2, rfl, hE2, hO2⟩
        have hs2 := OwnI.sl hO2
        have hP := hP.ext hE2
        have hE := hE.trans hE2
        clear hO2
        go_wp2_with fail
        refine (slices_Equal hP hs2).mono ?_
        rintro e w3 ⟨rfl, hQ3⟩
        have hE3 := hE.trans hQ3.ext
        go_wp2_with fail
        refine (ref_Product (hx2.ext hE3) (hP.ext hQ3.ext) ?_ (by omega)).mono ?_
        · intro i hi
          have := perm_at (pw_perm p1 k) (i := i) (by rw [pw_len]; have := HX.out; omega)
          rw [pw_len, HX.out] at this
          exact this
        rintro e w4 ⟨a4, n4, c4, rfl, hE4, hO4⟩
        have hl4 : n4 = n := by
          have := hO4.sl.len
          rw [comp_len, pw_len, HX.out] at this
          exact this.symm
        subst hl4
        go_wp2
        go_roundw
        case rel => exact ⟨k+1, _, _, by omega, by omega, by go_num, rfl, hE3.trans hE4, hO4.sl⟩
        case measure => simp [intOf]; omega
  · have p1' : permB xs = false := by simpa using p1
    have HS : Hid (orderS xs = (0, 1)) := by
      show orderS xs = (0, 1)
      unfold orderS
      rw [if_neg p1]
    go_enter Try.func25, Try.ntmps25
    go_wp2_with fail
    refine (ref_Valid hx).mono ?_
    rintro e w1 ⟨rfl, hE1⟩
    go_wp2
    go_ret2
    rw [HS.out]
    exact ⟨rfl, hE1⟩

end Go.Proofs.Ytegmbdkdgpeahaa
