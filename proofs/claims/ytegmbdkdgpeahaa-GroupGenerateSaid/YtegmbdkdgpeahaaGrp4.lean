/- The contracts of few, slices.Equal, Compose, Inverse. -/
import Derived.Test.YtegmbdkdgpeahaaGrp3
import Derived.Test.YtegmbdkdgpeahaaKeep
namespace Go.Proofs.Ytegmbdkdgpeahaa
open Go Go.RowKit

set_option maxHeartbeats 400000 in
theorem slices_Equal {a b : Option Addr} {n c m d : Nat} {xs ys : List Int} {w : World} (hx : SlI w a n c xs) (hy : SlI w b m d ys) :
    Calls Try.prog 33 #[.slice a n c, .slice b m d] w fun e w' => e = .returned (.bool (decide (xs = ys))) ∧ Qt w w' := by
  have hm := hx.le
  have hm2 := hy.le
  by_cases hl : n = m
  · have hne : ((n:Int) != (m:Int)) = false := by simp [hl]
    have HL := Lib.hid hl
    clear hl
    go_enter Try.func33, Try.ntmps33
    go_wp2
    go_loopw [13] (fun i wr => ∃ k : Nat, k ≤ n ∧ i = .int .i64 k ∧ Qt w wr ∧ xs.take k = ys.take k) (fun i _ => n - (intOf i).toNat)
    case atStart => exact ⟨0, Nat.zero_le _, rfl, Qt.refl _, rfl⟩
    case round =>
      obtain ⟨k, hk, rfl, hE, hp⟩ := hrel
      have HP := Lib.hid hp
      clear hp
      have hx := hx.ext hE.ext
      have hy := hy.ext hE.ext
      by_cases hlt : k < n
      · have hlt2 : k < m := by have := HL.out; omega
        obtain ⟨b1, o1, rfl, hc1⟩ := hx.at hlt
        obtain ⟨b2, o2, rfl, hc2⟩ := hy.at hlt2
        have g1 := hc1 k hlt
        have g2 := hc2 k hlt2
        clear hc1 hc2
        generalize hxk : xs.getD k 0 = xk at *
        generalize hyk : ys.getD k 0 = yk at *
        have HX := Lib.hid hxk
        have HY := Lib.hid hyk
        clear hxk hyk
        go_wp2
        go_quiet (fail)
        by_cases he : (xk != yk) = true
        · go_wp2
          go_ret
          have : xs ≠ ys := ne_of_at (k := k) (by rw [HX.out, HY.out]; exact he)
          exact ⟨by simp [this], hE.drewN _⟩
        · have he' : (xk != yk) = false := by simpa using he
          go_wp2
          go_roundw
          case rel => exact ⟨k+1, by omega, by go_num, hE.drewN _, take_step HP.out (by have := hx.len; omega) (by have := hy.len; omega) (by rw [HX.out, HY.out]; exact he')⟩
          case measure => simp [intOf]; omega
      · go_wp2
        go_ret
        refine ⟨?_, hE⟩
        have h1 := HP.out
        have h2 := HL.out
        rw [List.take_of_length_le (by have := hx.len; omega), List.take_of_length_le (by have := hy.len; omega)] at h1
        simp [h1]
  · have hne : ((n:Int) != (m:Int)) = true := by simp; omega
    go_enter Try.func33, Try.ntmps33
    go_wp2
    go_ret
    refine ⟨?_, Qt.refl _⟩
    have : xs ≠ ys := by rintro rfl; exact hl (hx.len.symm.trans hy.len)
    simp [this]


set_option maxHeartbeats 400000 in
theorem law_few {a : Option Addr} {n c : Nat} {xs : List (List Int)} {w : World} (hx : SlL w a n c xs) :
    Calls Try.prog 7 #[.slice a n c] w fun e w' => e = .returned (.bool (xs.all (fun x => decide (x.length ≤ 20)))) ∧ w = w' := by
  have hm := hx.le
  have HL := Lib.hid hx.len
  go_enter Try.func7, Try.ntmps7
  go_wp2
  go_loop [3] (fun i => ∃ k : Nat, k ≤ n ∧ i = .int .i64 k ∧ (xs.take k).all (fun x => decide (x.length ≤ 20)) = true) (fun i => n - (intOf i).toNat)
  case atStart => exact ⟨0, Nat.zero_le _, rfl, rfl⟩
  case round =>
    obtain ⟨k, hk, rfl, hp⟩ := hrel
    have HP := Lib.hid hp
    clear hp
    by_cases hlt : k < n
    · obtain ⟨b1, o1, a1, n1, c1, rfl, g1, s1⟩ := hx.at hlt
      have HS := Lib.hid s1.len
      clear s1
      by_cases hq : 20 < (n1 : Int)
      · go_wp2
        go_ret
        refine ⟨retB ?_, rfl⟩
        rw [all_no (k := k) (by have := HL.out; omega) (by rw [HS.out]; simp; omega)]
      · go_wp2
        go_round
        case rel => exact ⟨k+1, by omega, by go_num, all_step (by have := HL.out; omega) HP.out (by rw [HS.out]; simp; omega)⟩
        case measure => simp [intOf]; omega
    · go_wp2
      go_ret
      refine ⟨retB ?_, rfl⟩
      have h1 := HP.out
      rwa [List.take_of_length_le (by have := HL.out; omega)] at h1

/-- returns a new slice of ints and an error -/
def RetIE (w : World) (xs : List Int) (er : Int) (e : Ending) (w' : World) : Prop :=
  ∃ a n c, e = .returned (.tuple #[.slice a n c, .int .i64 er]) ∧ Ext w w' ∧ OwnI w' w.heap.size a n c xs

def composeS (xs ys : List Int) : List Int × Int :=
  if permB xs = true ∧ permB ys = true then (if xs.length = ys.length then (comp xs ys, 0) else ([], 4)) else ([], 1)

theorem perm_spec {xs : List Int} (h : permB xs = true) : permP xs := of_decide_eq_true h
theorem perm_at {xs : List Int} (h : permB xs = true) {i : Nat} (hi : i < xs.length) : 0 ≤ xs.getD i 0 ∧ xs.getD i 0 < xs.length := by
  have := (perm_spec h).2.1 (xs.getD i 0) (by simp [List.getD_eq_getElem?_getD, hi])
  exact this

set_option maxHeartbeats 400000 in
theorem group_Compose {a b : Option Addr} {n c m d : Nat} {xs ys : List Int} {w : World} (hx : SlI w a n c xs) (hy : SlI w b m d ys) :
    Calls Try.prog 11 #[.slice a n c, .slice b m d] w (RetIE w (composeS xs ys).1 (composeS xs ys).2) := by
  have HX := Lib.hid hx.len
  have HY := Lib.hid hy.len
  by_cases p1 : permB xs = true
  · by_cases p2 : permB ys = true
    · by_cases hl : n = m
      · have hne : ((n:Int) != (m:Int)) = false := by simp [hl]
        have HL := Lib.hid hl
        have HS : Hid (composeS xs ys = (comp xs ys, 0)) := by
          show composeS xs ys = (comp xs ys, 0)
          unfold composeS
          rw [if_pos ⟨p1, p2⟩, if_pos (by rw [HX.out, HY.out, hl])]
        clear hl
        go_enter Try.func11, Try.ntmps11
        go_wp2_with fail
        refine (group_Valid hx).mono ?_
        rintro e w1 ⟨rfl, hE1⟩
        go_wp2_with fail
        refine (group_Valid (hy.ext hE1)).mono ?_
        rintro e w2 ⟨rfl, hE2⟩
        go_wp2_with fail
        have hE := hE1.trans hE2
        refine (group_compose (hx.ext hE) (hy.ext hE) ?_ ?_).mono ?_
        · intro i hi
          have := perm_at p2 (i := i) (by have := HY.out; omega)
          have h1 := HY.out
          have h2 := HL.out
          omega
        · have := (perm_spec p2).1
          have h1 := HY.out
          omega
        rintro e w3 ⟨a3, n3, c3, rfl, hE3, hO3⟩
        go_wp2
        go_ret2
        rw [HS.out]
        exact ⟨a3, n3, c3, rfl, hE.trans hE3, Own.mono hO3 hE.size⟩
      · have hne : ((n:Int) != (m:Int)) = true := by simp; omega
        have HS : Hid (composeS xs ys = ([], 4)) := by
          show composeS xs ys = ([], 4)
          unfold composeS
          rw [if_pos ⟨p1, p2⟩, if_neg (by rw [HX.out, HY.out]; exact hl)]
        go_enter Try.func11, Try.ntmps11
        go_wp2_with fail
        refine (group_Valid hx).mono ?_
        rintro e w1 ⟨rfl, hE1⟩
        go_wp2_with fail
        refine (group_Valid (hy.ext hE1)).mono ?_
        rintro e w2 ⟨rfl, hE2⟩
        go_wp2
        go_ret2
        rw [HS.out]
        exact ⟨none, 0, 0, rfl, hE1.trans hE2, Own.nil _ _ _⟩
    · have p2' : permB ys = false := by simpa using p2
      have HS : Hid (composeS xs ys = ([], 1)) := by
        show composeS xs ys = ([], 1)
        unfold composeS
        rw [if_neg (fun h => p2 h.2)]
      go_enter Try.func11, Try.ntmps11
      go_wp2_with fail
      refine (group_Valid hx).mono ?_
      rintro e w1 ⟨rfl, hE1⟩
      go_wp2_with fail
      refine (group_Valid (hy.ext hE1)).mono ?_
      rintro e w2 ⟨rfl, hE2⟩
      go_wp2
      go_ret2
      rw [HS.out]
      exact ⟨none, 0, 0, rfl, hE1.trans hE2, Own.nil _ _ _⟩
  · have p1' : permB xs = false := by simpa using p1
    have HS : Hid (composeS xs ys = ([], 1)) := by
      show composeS xs ys = ([], 1)
      unfold composeS
      rw [if_neg (fun h => p1 h.1)]
    go_enter Try.func11, Try.ntmps11
    go_wp2_with fail
    refine (group_Valid hx).mono ?_
    rintro e w1 ⟨rfl, hE1⟩
    go_wp2
    go_ret2
    rw [HS.out]
    exact ⟨none, 0, 0, rfl, hE1, Own.nil _ _ _⟩

/-- what Inverse writes -/
def invTo (xs : List Int) : Nat → List Int
  | 0 => List.replicate xs.length 0
  | k + 1 => (invTo xs k).set (xs.getD k 0).toNat k
def inverseS (xs : List Int) : List Int × Int := if permB xs = true then (invTo xs xs.length, 0) else ([], 1)

set_option maxHeartbeats 400000 in
theorem group_Inverse {a : Option Addr} {n c : Nat} {xs : List Int} {w : World} (hx : SlI w a n c xs) :
    Calls Try.prog 12 #[.slice a n c] w (RetIE w (inverseS xs).1 (inverseS xs).2) := by
  have HX := Lib.hid hx.len
  have hnn := hx.le
  by_cases p1 : permB xs = true
  · have h6 : n ≤ 6 := by have := (perm_spec p1).1; have h := HX.out; omega
    have HS : Hid (inverseS xs = (invTo xs xs.length, 0)) := by
      show inverseS xs = _
      unfold inverseS
      rw [if_pos p1]
    go_enter Try.func12, Try.ntmps12
    go_wp2_with fail
    refine (group_Valid hx).mono ?_
    rintro e w1 ⟨rfl, hE1⟩
    go_wp2_with (at_make; refine wl_mk rfl rfl Try.underlying22 info_int rfl rfl rfl (by omega) (by unfold maxLen; omega) ?_; intro w2 hO2 hE2)
    go_loopw [15] (fun i wr => ∃ k : Nat, k ≤ n ∧ i = .int .i64 k ∧ Ext w1 wr ∧ OwnI wr w1.heap.size (some ⟨w1.heap.size, 0, none⟩) n n (invTo xs k)) (fun i _ => n - (intOf i).toNat)
    case atStart => exact ⟨0, Nat.zero_le _, rfl, hE2, by unfold OwnI; rw [show invTo xs 0 = List.replicate xs.length 0 from rfl, HX.out]; simpa using hO2⟩
    case round =>
      clear hO2 hE2
      obtain ⟨k, hk, rfl, hE, hO⟩ := hrel
      have hx := (hx.ext hE1).ext hE
      by_cases hlt : k < n
      · obtain ⟨b2, o2, rfl, hc2⟩ := hx.at hlt
        have g3 := hc2 k hlt
        have hik := perm_at p1 (i := k) (by have := HX.out; omega)
        have e1 : invTo xs (k + 1) = (invTo xs k).set (xs.getD k 0).toNat k := rfl
        rw [HX.out] at hik
        generalize hyk : xs.getD k 0 = y at *
        obtain ⟨y0, y1⟩ := hik
        have g1 := Own.cellAt hO (j := y.toNat) (by omega)
        have g2 := Own.frozenAt hO y.toNat
        have EK := Lib.hid e1
        clear hc2 hyk e1
        go_wp2
        go_roundw
        case rel =>
          refine ⟨k+1, by omega, by go_num, hE.setCell (Nat.le_refl _) _, ?_⟩
          have := Own.stored hO y.toNat (.int .i64 k)
          unfold OwnI
          rw [EK.out, List.map_set]
          exact this
        case measure => simp [intOf]; omega
      · have e : k = n := by omega
        go_wp2
        go_ret2
        rw [HS.out, HX.out]
        subst e
        exact ⟨_, _, _, rfl, hE1.trans hE, Own.mono hO hE1.size⟩
  · have p1' : permB xs = false := by simpa using p1
    have HS : Hid (inverseS xs = ([], 1)) := by
      show inverseS xs = ([], 1)
      unfold inverseS
      rw [if_neg p1]
    go_enter Try.func12, Try.ntmps12
    go_wp2_with fail
    refine (group_Valid hx).mono ?_
    rintro e w1 ⟨rfl, hE1⟩
    go_wp2
    go_ret2
    rw [HS.out]
    exact ⟨none, 0, 0, rfl, hE1, Own.nil _ _ _⟩

end Go.Proofs.Ytegmbdkdgpeahaa
