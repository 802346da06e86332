/- The contracts of the helpers of package sosoptkeep. -/
import Derived.Test.YtegmbdkdgpeahaaProg
import Derived.Test.YtegmbdkdgpeahaaBase
import Derived.Deep.QuietTactic
import Derived.BigQuiet
namespace Go.Proofs.Ytegmbdkdgpeahaa
open Go Go.RowKit

theorem take_step {xs ys : List Int} {k : Nat} (hp : xs.take k = ys.take k) (h1 : k < xs.length) (h2 : k < ys.length) (he : (xs.getD k 0 != ys.getD k 0) = false) : xs.take (k+1) = ys.take (k+1) := by
  simp [List.getD_eq_getElem?_getD, h1, h2] at he
  rw [List.take_succ_eq_append_getElem h1, List.take_succ_eq_append_getElem h2, hp, he]

theorem ne_of_at {xs ys : List Int} {k : Nat} (he : (xs.getD k 0 != ys.getD k 0) = true) : xs ≠ ys := by
  rintro rfl
  simp at he

set_option maxHeartbeats 400000 in
theorem keep_Ints {a b : Option Addr} {n c m d : Nat} {xs ys : List Int} {w : World} (hx : SlI w a n c xs) (hy : SlI w b m d ys) :
    Calls Try.prog 14 #[.slice a n c, .slice b m d] w fun e w' => e = .returned (.bool (decide (xs = ys))) ∧ Qt w w' := by
  have hm := hx.le
  have hm2 := hy.le
  by_cases hl : n = m
  · have hne : ((n:Int) != (m:Int)) = false := by simp [hl]
    have HL := Lib.hid hl
    clear hl
    go_enter Try.func14, Try.ntmps14
    go_wp2
    go_loopw [5] (fun i wr => ∃ k : Nat, k ≤ n ∧ i = .int .i64 k ∧ Qt w wr ∧ xs.take k = ys.take k) (fun i _ => n - (intOf i).toNat)
    case atStart => exact ⟨0, Nat.zero_le _, rfl, Qt.refl _, rfl⟩
    case round =>
      obtain ⟨k, hk, rfl, hE, hp⟩ := hrel
      have HP := Lib.hid hp
      clear hp
      have hx := hx.ext hE.ext
      have hy := hy.ext hE.ext
      by_cases hlt : k < n
      · have hlt2 : k < m := by have := HL.out; omega
        obtain ⟨b1, o1, rfl, hc1⟩ := hx.at hlt
        obtain ⟨b2, o2, rfl, hc2⟩ := hy.at hlt2
        have g1 := hc1 k hlt
        have g2 := hc2 k hlt2
        clear hc1 hc2
        generalize hxk : xs.getD k 0 = xk at *
        generalize hyk : ys.getD k 0 = yk at *
        have HX := Lib.hid hxk
        have HY := Lib.hid hyk
        clear hxk hyk
        go_wp2
        go_quiet (fail)
        by_cases he : (xk != yk) = true
        · go_wp2
          go_ret
          have : xs ≠ ys := ne_of_at (k := k) (by rw [HX.out, HY.out]; exact he)
          exact ⟨by simp [this], hE.drewN _⟩
        · have he' : (xk != yk) = false := by simpa using he
          go_wp2
          go_roundw
          case rel => exact ⟨k+1, by omega, by go_num, hE.drewN _, take_step HP.out (by have := hx.len; omega) (by have := hy.len; omega) (by rw [HX.out, HY.out]; exact he')⟩
          case measure => simp [intOf]; omega
      · go_wp2
        go_ret
        refine ⟨?_, hE⟩
        have h1 := HP.out
        have h2 := HL.out
        rw [List.take_of_length_le (by have := hx.len; omega), List.take_of_length_le (by have := hy.len; omega)] at h1
        simp [h1]
  · have hne : ((n:Int) != (m:Int)) = true := by simp; omega
    go_enter Try.func14, Try.ntmps14
    go_wp2
    go_ret
    refine ⟨?_, Qt.refl _⟩
    have : xs ≠ ys := by rintro rfl; exact hl (hx.len.symm.trans hy.len)
    simp [this]

theorem take_stepL {xs ys : List (List Int)} {k : Nat} (hp : xs.take k = ys.take k) (h1 : k < xs.length) (h2 : k < ys.length) (he : xs.getD k [] = ys.getD k []) : xs.take (k+1) = ys.take (k+1) := by
  simp [List.getD_eq_getElem?_getD, h1, h2] at he
  rw [List.take_succ_eq_append_getElem h1, List.take_succ_eq_append_getElem h2, hp, he]

set_option maxHeartbeats 400000 in
theorem keep_Lists {a b : Option Addr} {n c m d : Nat} {xs ys : List (List Int)} {w : World} (hx : SlL w a n c xs) (hy : SlL w b m d ys) :
    Calls Try.prog 20 #[.slice a n c, .slice b m d] w fun e w' => e = .returned (.bool (decide (xs = ys))) ∧ Qt w w' := by
  have hm := hx.le
  have hm2 := hy.le
  by_cases hl : n = m
  · have hne : ((n:Int) != (m:Int)) = false := by simp [hl]
    have HL := Lib.hid hl
    clear hl
    go_enter Try.func20, Try.ntmps20
    go_wp2
    go_loopw [5] (fun i wr => ∃ k : Nat, k ≤ n ∧ i = .int .i64 k ∧ Qt w wr ∧ xs.take k = ys.take k) (fun i _ => n - (intOf i).toNat)
    case atStart => exact ⟨0, Nat.zero_le _, rfl, Qt.refl _, rfl⟩
    case round =>
      obtain ⟨k, hk, rfl, hE, hp⟩ := hrel
      have HP := Lib.hid hp
      clear hp
      have hx := hx.ext hE.ext
      have hy := hy.ext hE.ext
      by_cases hlt : k < n
      · have hlt2 : k < m := by have := HL.out; omega
        obtain ⟨b1, o1, a1, n1, c1, rfl, g1, s1⟩ := hx.at hlt
        obtain ⟨b2, o2, a2, n2, c2, rfl, g2, s2⟩ := hy.at hlt2
        generalize hxk : xs.getD k [] = xk at *
        generalize hyk : ys.getD k [] = yk at *
        have HX := Lib.hid hxk
        have HY := Lib.hid hyk
        clear hxk hyk
        by_cases he : xk = yk
        · have hd : decide (xk = yk) = true := by simp [he]
          have HE := Lib.hid he
          clear he
          go_wp2
          go_quiet ((go_at_call 14; exact Calls.quiet_of (keep_Ints (s1.ext ((Ext.refl _).drewN _)) (s2.ext ((Ext.refl _).drewN _)))))
          go_wp2
          go_roundw
          case rel => exact ⟨k+1, by omega, by go_num, hE.drewN _, take_stepL HP.out (by have := hx.len; omega) (by have := hy.len; omega) (by rw [HX.out, HY.out]; exact HE.out)⟩
          case measure => simp [intOf]; omega
        · have hd : decide (xk = yk) = false := by simp [he]
          go_wp2
          go_quiet ((go_at_call 14; exact Calls.quiet_of (keep_Ints (s1.ext ((Ext.refl _).drewN _)) (s2.ext ((Ext.refl _).drewN _)))))
          go_wp2
          go_ret
          have : xs ≠ ys := by
            rintro rfl
            exact he (HX.out.symm.trans HY.out)
          exact ⟨by simp [this], hE.drewN _⟩
      · go_wp2
        go_ret
        refine ⟨?_, hE⟩
        have h1 := HP.out
        have h2 := HL.out
        rw [List.take_of_length_le (by have := hx.len; omega), List.take_of_length_le (by have := hy.len; omega)] at h1
        simp [h1]
  · have hne : ((n:Int) != (m:Int)) = true := by simp; omega
    go_enter Try.func20, Try.ntmps20
    go_wp2
    go_ret
    refine ⟨?_, Qt.refl _⟩
    have : xs ≠ ys := by rintro rfl; exact hl (hx.len.symm.trans hy.len)
    simp [this]

/-- at most n lists of at most m elements -/
def smallLists (l : List (List Int)) (n m : Int) : Bool := decide ((l.length : Int) ≤ n) && l.all (fun x => decide ((x.length : Int) ≤ m))

theorem all_step {l : List (List Int)} {k : Nat} {p : List Int → Bool} (hk : k < l.length) (h : (l.take k).all p = true) (h1 : p (l.getD k []) = true) : (l.take (k + 1)).all p = true := by
  rw [List.take_succ_eq_append_getElem hk, List.all_append, h]
  simp [List.getD_eq_getElem?_getD, hk] at h1
  simp [h1]
theorem all_no {l : List (List Int)} {k : Nat} {p : List Int → Bool} (hk : k < l.length) (h1 : p (l.getD k []) = false) : l.all p = false := by
  simp [List.getD_eq_getElem?_getD, hk] at h1
  rw [List.all_eq_false]
  exact ⟨l[k], List.getElem_mem hk, by simp [h1]⟩

set_option maxHeartbeats 400000 in
theorem keep_SmallLists {a : Option Addr} {n c : Nat} {xs : List (List Int)} {w : World} {p q : Int} (hx : SlL w a n c xs) :
    Calls Try.prog 15 #[.slice a n c, .int .i64 p, .int .i64 q] w fun e w' => e = .returned (.bool (smallLists xs p q)) ∧ w = w' := by
  have hm := hx.le
  have HL := Lib.hid hx.len
  by_cases hl : p < (n : Int)
  · go_enter Try.func15, Try.ntmps15
    go_wp2
    go_ret
    refine ⟨retB ?_, rfl⟩
    have : ¬ ((xs.length : Int) ≤ p) := by have := HL.out; omega
    simp [smallLists, this]
  · go_enter Try.func15, Try.ntmps15
    go_wp2
    go_loop [7] (fun i => ∃ k : Nat, k ≤ n ∧ i = .int .i64 k ∧ (xs.take k).all (fun x => decide ((x.length : Int) ≤ q)) = true) (fun i => n - (intOf i).toNat)
    case atStart => exact ⟨0, Nat.zero_le _, rfl, rfl⟩
    case round =>
      obtain ⟨k, hk, rfl, hp⟩ := hrel
      have HP := Lib.hid hp
      clear hp
      by_cases hlt : k < n
      · obtain ⟨b1, o1, a1, n1, c1, rfl, g1, s1⟩ := hx.at hlt
        have hs := s1.len
        have HS := Lib.hid hs
        clear hs s1
        by_cases hq : q < (n1 : Int)
        · go_wp2
          go_ret
          refine ⟨retB ?_, rfl⟩
          unfold smallLists
          rw [all_no (k := k) (by have := HL.out; omega) (by rw [HS.out]; simp; omega)]
          simp
        · go_wp2
          go_round
          case rel => exact ⟨k+1, by omega, by go_num, all_step (by have := HL.out; omega) HP.out (by rw [HS.out]; simp; omega)⟩
          case measure => simp [intOf]; omega
      · go_wp2
        go_ret
        refine ⟨retB ?_, rfl⟩
        have h1 := HP.out
        rw [List.take_of_length_le (by have := HL.out; omega)] at h1
        have : (xs.length : Int) ≤ p := by have := HL.out; omega
        unfold smallLists
        rw [h1]
        simp [this]

end Go.Proofs.Ytegmbdkdgpeahaa
