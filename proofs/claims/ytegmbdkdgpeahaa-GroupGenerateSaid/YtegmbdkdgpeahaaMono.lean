/- The degree of a monomial, and the contracts of the program's and the reference's Degree and Valid. -/
import Derived.Test.YtegmbdkdgpeahaaKeep
namespace Go.Proofs.Ytegmbdkdgpeahaa
open Go Go.RowKit

def degF : Int → List Int → Int
  | s, [] => s
  | s, x :: t => if x < 0 ∨ 24 - s < x then -1 else degF (s + x) t
def degS (xs : List Int) : Int := if 6 < xs.length then -1 else degF 0 xs

theorem deg_bad {xs : List Int} {s : Int} {k : Nat} (hk : k < xs.length) (h : degF 0 xs = degF s (xs.drop k)) (hb : xs.getD k 0 < 0 ∨ 24 - s < xs.getD k 0) : degF 0 xs = -1 := by
  rw [h, List.drop_eq_getElem_cons hk]
  simp only [List.getD_eq_getElem?_getD, List.getElem?_eq_getElem hk, Option.getD_some] at hb
  simp only [degF]
  rw [if_pos hb]
theorem deg_step {xs : List Int} {s : Int} {k : Nat} (hk : k < xs.length) (h : degF 0 xs = degF s (xs.drop k)) (hb : ¬ (xs.getD k 0 < 0 ∨ 24 - s < xs.getD k 0)) : degF 0 xs = degF (s + xs.getD k 0) (xs.drop (k + 1)) := by
  rw [h, List.drop_eq_getElem_cons hk]
  simp only [List.getD_eq_getElem?_getD, List.getElem?_eq_getElem hk, Option.getD_some] at hb ⊢
  simp only [degF]
  rw [if_neg hb]

set_option maxHeartbeats 400000 in
theorem mono_Degree {a : Option Addr} {n c : Nat} {xs : List Int} {w : World} (hx : SlI w a n c xs) :
    Calls Try.prog 50 #[.slice a n c] w fun e w' => e = .returned (.int .i64 (degS xs)) ∧ w = w' := by
  have HX := Lib.hid hx.len
  have hnn := hx.le
  by_cases h6 : 6 < (n : Int)
  · have HD : Hid (degS xs = -1) := by
      show degS xs = -1
      unfold degS
      rw [if_pos (by rw [HX.out]; omega)]
    go_enter Try.func50, Try.ntmps50
    go_wp2
    go_ret
    exact ⟨retN HD.out, rfl⟩
  · have HD : Hid (degS xs = degF 0 xs) := by
      show degS xs = _
      unfold degS
      rw [if_neg (by rw [HX.out]; omega)]
    go_enter Try.func50, Try.ntmps50
    go_wp2
    go_loop [3, 11] (fun v i => ∃ (s : Int) (k : Nat), v = .int .i64 s ∧ i = .int .i64 k ∧ k ≤ n ∧ 0 ≤ s ∧ s ≤ 24 ∧ Hid (degF 0 xs = degF s (xs.drop k))) (fun _ i => n - (intOf i).toNat)
    case atStart => exact ⟨0, 0, rfl, rfl, Nat.zero_le _, by omega, by omega, Lib.hid rfl⟩
    case round =>
      obtain ⟨s, k, rfl, rfl, hk, hs0, hs1, HS⟩ := hrel
      by_cases hlt : k < n
      · obtain ⟨b1, o1, rfl, hc⟩ := hx.at hlt
        have g1 := hc k hlt
        have hkl : k < xs.length := by rw [HX.out]; exact hlt
        have HB := Lib.hid (deg_bad hkl HS.out)
        have HT := Lib.hid (deg_step hkl HS.out)
        generalize xs.getD k 0 = y at *
        clear hc
        by_cases hy : y < 0
        · go_wp2
          go_ret
          exact ⟨retN (by rw [HD.out, HB.out (Or.inl hy)]), rfl⟩
        · have hw : IntKind.i64.wrap (24 - s) = 24 - s := IntWalk.i64_in _ (by omega)
          by_cases hy2 : 24 - s < y
          · go_wp2
            go_ret
            exact ⟨retN (by rw [HD.out, HB.out (Or.inr hy2)]), rfl⟩
          · have hw2 : IntKind.i64.wrap (s + y) = s + y := IntWalk.i64_in _ (by omega)
            go_wp2
            go_round
            case rel => exact ⟨s + y, k + 1, by go_num, by go_num, by omega, by omega, by omega, Lib.hid (HT.out (by omega))⟩
            case measure => simp [intOf]; omega
      · have ed : xs.drop k = [] := List.drop_of_length_le (by have := HX.out; omega)
        have HE : Hid (degS xs = s) := by
          show degS xs = s
          rw [HD.out, HS.out, ed]
          rfl
        go_wp2
        go_ret
        exact ⟨retN HE.out, rfl⟩

def validS (xs : List Int) : Bool := decide (0 ≤ degS xs)
set_option maxHeartbeats 400000 in
theorem mono_Valid {a : Option Addr} {n c : Nat} {xs : List Int} {w : World} (hx : SlI w a n c xs) :
    Calls Try.prog 43 #[.slice a n c] w fun e w' => e = .returned (.bool (validS xs)) ∧ w = w' := by
  go_enter Try.func43, Try.ntmps43
  go_wp2_with fail
  refine (mono_Degree hx).mono ?_
  rintro e w1 ⟨rfl, rfl⟩
  go_wp2
  go_ret
  exact ⟨rfl, rfl⟩

set_option maxHeartbeats 400000 in
theorem ref05_Degree {a : Option Addr} {n c : Nat} {xs : List Int} {w : World} (hx : SlI w a n c xs) :
    Calls Try.prog 52 #[.slice a n c] w fun e w' => e = .returned (.int .i64 (degS xs)) ∧ w = w' := by
  have HX := Lib.hid hx.len
  have hnn := hx.le
  by_cases h6 : 6 < (n : Int)
  · have HD : Hid (degS xs = -1) := by
      show degS xs = -1
      unfold degS
      rw [if_pos (by rw [HX.out]; omega)]
    go_enter Try.func52, Try.ntmps52
    go_wp2
    go_ret
    exact ⟨retN HD.out, rfl⟩
  · have HD : Hid (degS xs = degF 0 xs) := by
      show degS xs = _
      unfold degS
      rw [if_neg (by rw [HX.out]; omega)]
    go_enter Try.func52, Try.ntmps52
    go_wp2
    go_loop [3, 4] (fun v i => ∃ (s : Int) (k : Nat), v = .int .i64 s ∧ i = .int .i64 k ∧ k ≤ n ∧ 0 ≤ s ∧ s ≤ 24 ∧ Hid (degF 0 xs = degF s (xs.drop k))) (fun _ i => n - (intOf i).toNat)
    case atStart => exact ⟨0, 0, rfl, rfl, Nat.zero_le _, by omega, by omega, Lib.hid rfl⟩
    case round =>
      obtain ⟨s, k, rfl, rfl, hk, hs0, hs1, HS⟩ := hrel
      by_cases hlt : k < n
      · obtain ⟨b1, o1, rfl, hc⟩ := hx.at hlt
        have g1 := hc k hlt
        have hkl : k < xs.length := by rw [HX.out]; exact hlt
        have HB := Lib.hid (deg_bad hkl HS.out)
        have HT := Lib.hid (deg_step hkl HS.out)
        generalize xs.getD k 0 = y at *
        clear hc
        by_cases hy : y < 0
        · go_wp2
          go_ret
          exact ⟨retN (by rw [HD.out, HB.out (Or.inl hy)]), rfl⟩
        · have hw : IntKind.i64.wrap (24 - s) = 24 - s := IntWalk.i64_in _ (by omega)
          by_cases hy2 : 24 - s < y
          · go_wp2
            go_ret
            exact ⟨retN (by rw [HD.out, HB.out (Or.inr hy2)]), rfl⟩
          · have hw2 : IntKind.i64.wrap (s + y) = s + y := IntWalk.i64_in _ (by omega)
            go_wp2
            go_round
            case rel => exact ⟨s + y, k + 1, by go_num, by go_num, by omega, by omega, by omega, Lib.hid (HT.out (by omega))⟩
            case measure => simp [intOf]; omega
      · have ed : xs.drop k = [] := List.drop_of_length_le (by have := HX.out; omega)
        have HE : Hid (degS xs = s) := by
          show degS xs = s
          rw [HD.out, HS.out, ed]
          rfl
        go_wp2
        go_ret
        exact ⟨retN HE.out, rfl⟩


set_option maxHeartbeats 400000 in
theorem ref05_Valid {a : Option Addr} {n c : Nat} {xs : List Int} {w : World} (hx : SlI w a n c xs) :
    Calls Try.prog 45 #[.slice a n c] w fun e w' => e = .returned (.bool (validS xs)) ∧ w = w' := by
  have HX := Lib.hid hx.len
  by_cases h6 : (n : Int) ≤ 6
  · go_enter Try.func45, Try.ntmps45
    go_wp2_with fail
    refine (ref05_Degree hx).mono ?_
    rintro e w1 ⟨rfl, rfl⟩
    go_wp2
    go_ret
    exact ⟨rfl, rfl⟩
  · have HV : Hid (validS xs = false) := by
      show validS xs = false
      unfold validS degS
      rw [if_pos (by rw [HX.out]; omega)]
      rfl
    go_enter Try.func45, Try.ntmps45
    go_wp2
    go_ret
    exact ⟨retB HV.out, rfl⟩

end Go.Proofs.Ytegmbdkdgpeahaa
