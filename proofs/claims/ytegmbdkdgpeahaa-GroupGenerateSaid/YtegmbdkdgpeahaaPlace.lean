/- The reference's Less and place (a search by halving in a list in strict order). -/
import Derived.Test.YtegmbdkdgpeahaaGen
import Derived.Test.YtegmbdkdgpeahaaRef1
namespace Go.Proofs.Ytegmbdkdgpeahaa
open Go Go.RowKit

/-- in strict order -/
def sortS (l : List (List Int)) : Prop := ∀ i j, i < j → j < l.length → cmpL (l.getD i []) (l.getD j []) < 0

theorem cmpL_lt_trans {a b c : List Int} (h1 : cmpL a b < 0) (h2 : cmpL b c < 0) : cmpL a c < 0 := by
  have h := cmpL_trans (Int.le_of_lt h1) (Int.le_of_lt h2)
  rcases Int.lt_or_eq_of_le h with h | h
  · exact h
  · have e := cmpL_eq h
    subst e
    have := cmpL_anti a b
    omega
theorem sortS.nodup {l : List (List Int)} (h : sortS l) : l.Nodup := by
  unfold List.Nodup
  rw [List.pairwise_iff_getElem]
  intro i j hi hj hij e
  have := h i j hij hj
  simp only [List.getD_eq_getElem?_getD, List.getElem?_eq_getElem hi, List.getElem?_eq_getElem hj, Option.getD_some, e, cmpL_self] at this
  omega

/-- what the search knows -/
def plI (l : List (List Int)) (p : List Int) (lo hi : Nat) : Prop :=
  (∀ i, i < lo → cmpL (l.getD i []) p < 0) ∧ ∀ i, hi ≤ i → i < l.length → ¬ cmpL (l.getD i []) p < 0
theorem plI.up {l : List (List Int)} {p : List Int} {lo hi m : Nat} (hs : sortS l) (h : plI l p lo hi) (hm : m < l.length) (hc : cmpL (l.getD m []) p < 0) : plI l p (m + 1) hi := by
  refine ⟨fun i hi => ?_, h.2⟩
  rcases Nat.lt_or_ge i m with h1 | h1
  · exact cmpL_lt_trans (hs i m h1 hm) hc
  · have : i = m := by omega
    subst this
    exact hc
theorem plI.down {l : List (List Int)} {p : List Int} {lo hi m : Nat} (hs : sortS l) (h : plI l p lo hi) (hc : ¬ cmpL (l.getD m []) p < 0) : plI l p lo m := by
  refine ⟨h.1, fun i hi hil => ?_⟩
  rcases Nat.eq_or_lt_of_le hi with h1 | h1
  · subst h1
    exact hc
  · intro h2
    exact hc (cmpL_lt_trans (hs m i h1 hil) h2)
theorem plI.found {l : List (List Int)} {p : List Int} {k : Nat} (hs : sortS l) (h : plI l p k k) : p ∈ l ↔ k < l.length ∧ l.getD k [] = p := by
  constructor
  · intro hp
    obtain ⟨j, hj, e⟩ := List.mem_iff_getElem.1 hp
    have e' : l.getD j [] = p := by rw [List.getD_eq_getElem?_getD, List.getElem?_eq_getElem hj]; exact e
    have hkj : k ≤ j := by
      rcases Nat.lt_or_ge j k with h1 | h1
      · have := h.1 j h1
        rw [e', cmpL_self] at this
        omega
      · exact h1
    rcases Nat.eq_or_lt_of_le hkj with h1 | h1
    · subst h1
      exact ⟨hj, e'⟩
    · have := hs k j h1 hj
      rw [e'] at this
      exact absurd this (h.2 k (Nat.le_refl _) (by omega))
  · rintro ⟨h1, h2⟩
    rw [← h2, List.getD_eq_getElem?_getD, List.getElem?_eq_getElem h1]
    exact List.getElem_mem h1

set_option maxHeartbeats 400000 in
theorem ref_Less {a b : Option Addr} {n c m d : Nat} {xs ys : List Int} {w : World} (hx : SlI w a n c xs) (hy : SlI w b m d ys) :
    Calls Try.prog 40 #[.slice a n c, .slice b m d] w fun e w' => e = .returned (.bool (decide (cmpL xs ys < 0))) ∧ Qt w w' := by
  go_enter Try.func40, Try.ntmps40
  go_wp2_with fail
  refine (slices_Compare hx hy).mono ?_
  rintro e w1 ⟨rfl, hQ1⟩
  go_wp2
  go_ret
  exact ⟨rfl, hQ1⟩

set_option maxHeartbeats 400000 in
theorem ref_place {a b : Option Addr} {n c m d : Nat} {ls : List (List Int)} {p : List Int} {w : World} (hx : SlL w a n c ls) (hy : SlI w b m d p) (hs : sortS ls) (hn6 : n ≤ 1000000) :
    Calls Try.prog 41 #[.slice a n c, .slice b m d] w fun e w' => ∃ k : Nat, e = .returned (.tuple #[.int .i64 k, .bool (decide (p ∈ ls))]) ∧ Qt w w' ∧ k ≤ n ∧ plI ls p k k := by
  have HL := Lib.hid hx.len
  have HS := Lib.hid hs
  clear hs
  go_enter Try.func41, Try.ntmps41
  go_wp2
  go_loopw [6, 7] (fun i j wr => ∃ lo hi : Nat, i = .int .i64 lo ∧ j = .int .i64 hi ∧ lo ≤ hi ∧ hi ≤ n ∧ Qt w wr ∧ Hid (plI ls p lo hi)) (fun i j _ => (intOf j).toNat - (intOf i).toNat)
  case atStart => exact ⟨0, n, rfl, rfl, Nat.zero_le _, Nat.le_refl _, Qt.refl w, Lib.hid ⟨fun i hi => by omega, fun i h1 h2 => by have := HL.out; omega⟩⟩
  case round =>
    obtain ⟨lo, hi, rfl, rfl, hle, hhi, hQ, HI⟩ := hrel
    have hx := hx.ext hQ.ext
    have hy := hy.ext hQ.ext
    by_cases hlt : lo < hi
    · obtain ⟨md, hmd⟩ : ∃ md : Nat, md = (lo + hi) / 2 := ⟨_, rfl⟩
      have hm1 : lo ≤ md := by omega
      have hm2 : md < hi := by omega
      have em : (((lo : Int) + (hi : Int)).tdiv 2) = (md : Int) := by rw [Int.tdiv_eq_ediv_of_nonneg (by omega)]; omega
      obtain ⟨b1, o1, a1, n1, c1, rfl, g1, s1⟩ := hx.at (k := md) (by omega)
      have HM := Lib.hid hmd
      clear hmd
      have HU := Lib.hid (fun h => HI.out.up (m := md) HS.out (by have := HL.out; omega) h)
      have HD := Lib.hid (fun h => HI.out.down (m := md) HS.out h)
      generalize ls.getD md [] = q at *
      go_wp2_with fail
      refine (ref_Less s1 hy).mono ?_
      rintro e w1 ⟨rfl, hQ1⟩
      by_cases hc : cmpL q p < 0
      · have hd : decide (cmpL q p < 0) = true := by simp [hc]
        rw [hd]
        go_wp2
        go_roundw
        case rel => exact ⟨md + 1, hi, by go_num, rfl, by omega, hhi, hQ.trans hQ1, Lib.hid (HU.out hc)⟩
        case measure => simp [intOf]; omega
      · have hd : decide (cmpL q p < 0) = false := by simp [hc]
        rw [hd]
        go_wp2
        go_roundw
        case rel => exact ⟨lo, md, rfl, rfl, by omega, by omega, hQ.trans hQ1, Lib.hid (HD.out hc)⟩
        case measure => simp [intOf]; omega
    · have e : hi = lo := by omega
      subst e
      have HF := Lib.hid (HI.out.found HS.out)
      by_cases hln : hi < n
      · obtain ⟨b1, o1, a1, n1, c1, rfl, g1, s1⟩ := hx.at (k := hi) hln
        go_wp2_with fail
        refine (slices_Equal s1 hy).mono ?_
        rintro e w1 ⟨rfl, hQ1⟩
        go_wp2
        go_ret2
        refine ⟨hi, ?_, hQ.trans hQ1, by omega, HI.out⟩
        have : decide (ls.getD hi [] = p) = decide (p ∈ ls) := by
          rw [decide_eq_decide, HF.out]
          have := HL.out
          constructor
          · intro h; exact ⟨by omega, h⟩
          · exact fun h => h.2
        rw [← this]
        simp
      · go_wp2
        go_ret2
        refine ⟨hi, ?_, hQ, by omega, HI.out⟩
        have : decide (p ∈ ls) = false := by
          rw [decide_eq_false_iff_not, HF.out]
          have := HL.out
          omega
        rw [this]
        rfl

end Go.Proofs.Ytegmbdkdgpeahaa
