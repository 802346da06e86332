/- The order of lists of ints; the contracts of cmp.Compare and slices.Compare. -/
import Derived.Test.YtegmbdkdgpeahaaClo3
namespace Go.Proofs.Ytegmbdkdgpeahaa
open Go Go.RowKit

def cmpI (x y : Int) : Int := if x < y then -1 else if y < x then 1 else 0
def cmpL : List Int → List Int → Int
  | [], [] => 0
  | [], _ :: _ => -1
  | _ :: _, [] => 1
  | x :: xs, y :: ys => if x < y then -1 else if y < x then 1 else cmpL xs ys

theorem cmpL_self : ∀ a : List Int, cmpL a a = 0
  | [] => rfl
  | x :: a => by simp [cmpL, cmpL_self a]
theorem cmpL_eq : ∀ {a b : List Int}, cmpL a b = 0 → a = b
  | [], [], _ => rfl
  | [], _ :: _, h => by simp [cmpL] at h
  | _ :: _, [], h => by simp [cmpL] at h
  | x :: a, y :: b, h => by
    unfold cmpL at h
    by_cases h1 : x < y
    · simp [h1] at h
    · by_cases h2 : y < x
      · simp [h1, h2] at h
      · simp only [h1, h2, if_false] at h
        have : x = y := by omega
        rw [this, cmpL_eq h]
theorem cmpL_anti : ∀ a b : List Int, cmpL b a = - cmpL a b
  | [], [] => rfl
  | [], _ :: _ => rfl
  | _ :: _, [] => rfl
  | x :: a, y :: b => by
    unfold cmpL
    by_cases h1 : x < y
    · have h2 : ¬ y < x := by omega
      simp [h1, h2]
    · by_cases h2 : y < x
      · simp [h1, h2]
      · simp [h1, h2, cmpL_anti a b]
theorem cmpL_trans : ∀ {a b c : List Int}, cmpL a b ≤ 0 → cmpL b c ≤ 0 → cmpL a c ≤ 0
  | [], _, [], _, _ => by simp [cmpL]
  | [], _, _ :: _, _, _ => by simp [cmpL]
  | _ :: _, [], _, h, _ => by simp [cmpL] at h
  | _ :: _, _ :: _, [], _, h => by simp [cmpL] at h
  | x :: a, y :: b, z :: c, h1, h2 => by
    unfold cmpL at h1 h2 ⊢
    by_cases xy : x < y
    · by_cases yz : y < z
      · simp [show x < z by omega]
      · by_cases zy : z < y
        · simp [yz, zy] at h2
        · simp [show x < z by omega]
    · by_cases yx : y < x
      · simp [xy, yx] at h1
      · simp only [xy, yx, if_false] at h1
        by_cases yz : y < z
        · simp [show x < z by omega]
        · by_cases zy : z < y
          · simp [yz, zy] at h2
          · simp only [yz, zy, if_false] at h2
            have e1 : ¬ x < z := by omega
            have e2 : ¬ z < x := by omega
            simp only [e1, e2, if_false]
            exact cmpL_trans h1 h2
theorem cmpL_total (a b : List Int) : cmpL a b ≤ 0 ∨ cmpL b a ≤ 0 := by
  have := cmpL_anti a b
  omega
theorem cmpL_prefix : ∀ (k : Nat) (a b : List Int), a.take k = b.take k → k ≤ a.length → k ≤ b.length → cmpL a b = cmpL (a.drop k) (b.drop k)
  | 0, _, _, _, _, _ => rfl
  | k + 1, x :: a, y :: b, h, h1, h2 => by
    simp only [List.take_succ_cons, List.cons.injEq] at h
    obtain ⟨rfl, h⟩ := h
    simp only [List.length_cons] at h1 h2
    rw [List.drop_succ_cons, List.drop_succ_cons, ← cmpL_prefix k a b h (by omega) (by omega)]
    simp [cmpL]
  | k + 1, [], _, _, h1, _ => by simp at h1
  | k + 1, _ :: _, [], _, _, h2 => by simp at h2

set_option maxHeartbeats 400000 in
theorem cmp_isNaN (x : Int) (w : World) : Calls Try.prog 55 #[.int .i64 x] w fun e w' => e = .returned (.bool false) ∧ w = w' := by
  have h : (x != x) = false := by simp
  go_enter Try.func55, Try.ntmps55
  go_wp2
  go_ret
  exact ⟨rfl, rfl⟩

set_option maxHeartbeats 400000 in
theorem cmp_Compare (x y : Int) (w : World) : Calls Try.prog 49 #[.int .i64 x, .int .i64 y] w fun e w' => e = .returned (.int .i64 (cmpI x y)) ∧ w = w' := by
  by_cases h1 : x < y
  · have H : Hid (cmpI x y = -1) := by show _ = _; simp [cmpI, h1]
    go_enter Try.func49, Try.ntmps49
    go_wp2_with (go_at_call 55; refine (cmp_isNaN _ _).mono ?_; rintro e w1 ⟨rfl, rfl⟩)
    go_ret
    exact ⟨retN H.out, rfl⟩
  · by_cases h2 : y < x
    · have H : Hid (cmpI x y = 1) := by show _ = _; simp [cmpI, h1, h2]
      go_enter Try.func49, Try.ntmps49
      go_wp2_with (go_at_call 55; refine (cmp_isNaN _ _).mono ?_; rintro e w1 ⟨rfl, rfl⟩)
      go_ret
      exact ⟨retN H.out, rfl⟩
    · have H : Hid (cmpI x y = 0) := by show _ = _; simp [cmpI, h1, h2]
      go_enter Try.func49, Try.ntmps49
      go_wp2_with (go_at_call 55; refine (cmp_isNaN _ _).mono ?_; rintro e w1 ⟨rfl, rfl⟩)
      go_ret
      exact ⟨retN H.out, rfl⟩

theorem cmpL_at {xs ys : List Int} {k : Nat} (hp : xs.take k = ys.take k) (h1 : k < xs.length) (h2 : k < ys.length) (hne : cmpI (xs.getD k 0) (ys.getD k 0) ≠ 0) : cmpL xs ys = cmpI (xs.getD k 0) (ys.getD k 0) := by
  rw [cmpL_prefix k xs ys hp (by omega) (by omega), List.drop_eq_getElem_cons h1, List.drop_eq_getElem_cons h2]
  simp only [List.getD_eq_getElem?_getD, List.getElem?_eq_getElem h1, List.getElem?_eq_getElem h2, Option.getD_some] at hne ⊢
  unfold cmpI at hne ⊢
  unfold cmpL
  by_cases c1 : xs[k] < ys[k]
  · simp [c1]
  · by_cases c2 : ys[k] < xs[k]
    · simp [c1, c2]
    · simp [c1, c2] at hne
theorem cmpI_zero {x y : Int} (h : cmpI x y = 0) : x = y := by
  unfold cmpI at h
  by_cases c1 : x < y
  · simp [c1] at h
  · by_cases c2 : y < x
    · simp [c1, c2] at h
    · omega

set_option maxHeartbeats 400000 in
theorem slices_Compare {a b : Option Addr} {n c m d : Nat} {xs ys : List Int} {w : World} (hx : SlI w a n c xs) (hy : SlI w b m d ys) :
    Calls Try.prog 37 #[.slice a n c, .slice b m d] w fun e w' => e = .returned (.int .i64 (cmpL xs ys)) ∧ Qt w w' := by
  have hm := hx.le
  have hm2 := hy.le
  have HX := Lib.hid hx.len
  have HY := Lib.hid hy.len
  go_enter Try.func37, Try.ntmps37
  go_wp2
  go_loopw [11] (fun i wr => ∃ k : Nat, k ≤ n ∧ k ≤ m ∧ i = .int .i64 k ∧ Qt w wr ∧ xs.take k = ys.take k) (fun i _ => n - (intOf i).toNat)
  case atStart => exact ⟨0, Nat.zero_le _, Nat.zero_le _, rfl, Qt.refl _, rfl⟩
  case round =>
    obtain ⟨k, hk, hkm, rfl, hE, hp⟩ := hrel
    have HP := Lib.hid hp
    clear hp
    have hx := hx.ext hE.ext
    have hy := hy.ext hE.ext
    by_cases hlt : k < n
    · obtain ⟨b1, o1, rfl, hc1⟩ := hx.at hlt
      have g1 := hc1 k hlt
      clear hc1
      by_cases hlt2 : k < m
      · obtain ⟨b2, o2, rfl, hc2⟩ := hy.at hlt2
        have g2 := hc2 k hlt2
        clear hc2
        have hca := @cmpL_at xs ys k HP.out (by have := HX.out; omega) (by have := HY.out; omega)
        generalize hxk : xs.getD k 0 = xk at *
        generalize hyk : ys.getD k 0 = yk at *
        have HX2 := Lib.hid hxk
        have HY2 := Lib.hid hyk
        have HCA := Lib.hid hca
        clear hxk hyk hca
        by_cases he : cmpI xk yk = 0
        · have heb : (cmpI xk yk != 0) = false := by simp [he]
          have HE := Lib.hid he
          clear he
          go_wp2_with (go_at_call 49; refine (cmp_Compare _ _ _).mono ?_; rintro e w1 ⟨rfl, rfl⟩)
          go_roundw
          case rel => exact ⟨k+1, by omega, by omega, by go_num, hE, take_step HP.out (by have := HX.out; omega) (by have := HY.out; omega) (by rw [HX2.out, HY2.out, cmpI_zero HE.out]; simp)⟩
          case measure => simp [intOf]; omega
        · have heb : (cmpI xk yk != 0) = true := by simp [he]
          have HE := Lib.hid he
          clear he
          go_wp2_with (go_at_call 49; refine (cmp_Compare _ _ _).mono ?_; rintro e w1 ⟨rfl, rfl⟩)
          go_ret
          exact ⟨retN (HCA.out HE.out), hE⟩
      · go_wp2
        go_ret
        refine ⟨retN ?_, hE⟩
        rw [cmpL_prefix k xs ys HP.out (by have := HX.out; omega) (by have := HY.out; omega), List.drop_of_length_le (l := ys) (by have := HY.out; omega), List.drop_eq_getElem_cons (l := xs) (by have := HX.out; omega)]
        rfl
    · have ek : k = n := by omega
      by_cases hlm : n < m
      · go_wp2
        go_ret
        refine ⟨retN ?_, hE⟩
        rw [cmpL_prefix k xs ys HP.out (by have := HX.out; omega) (by have := HY.out; omega), List.drop_of_length_le (l := xs) (by have := HX.out; omega), List.drop_eq_getElem_cons (l := ys) (by have := HY.out; omega)]
        rfl
      · go_wp2
        go_ret
        refine ⟨retN ?_, hE⟩
        rw [cmpL_prefix k xs ys HP.out (by have := HX.out; omega) (by have := HY.out; omega), List.drop_of_length_le (l := xs) (by have := HX.out; omega), List.drop_of_length_le (l := ys) (by have := HY.out; omega)]
        rfl

end Go.Proofs.Ytegmbdkdgpeahaa
