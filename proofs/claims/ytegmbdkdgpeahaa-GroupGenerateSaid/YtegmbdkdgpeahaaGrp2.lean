/- The contract of group.Valid, and of keep.Mod. -/
import Derived.Test.YtegmbdkdgpeahaaGrp1
namespace Go.Proofs.Ytegmbdkdgpeahaa
open Go Go.RowKit

def permP (xs : List Int) : Prop := xs.length ≤ 6 ∧ (∀ x ∈ xs, 0 ≤ x ∧ x < xs.length) ∧ xs.Nodup
instance (xs : List Int) : Decidable (permP xs) := by unfold permP; exact inferInstance
def permB (xs : List Int) : Bool := decide (permP xs)

def seenL (l : List Int) : List Value := (List.range 6).map (fun (j : Nat) => Value.bool (decide (Int.ofNat j ∈ l)))
theorem seenL_len (l : List Int) : (seenL l).length = 6 := by simp [seenL]
theorem seenL_at (l : List Int) {j : Nat} (h : j < 6) : (seenL l).getD j undef = .bool (decide ((j : Int) ∈ l)) := by
  simp [seenL, List.getD_eq_getElem?_getD, h]
theorem seenL_set (l : List Int) {x : Int} (h0 : 0 ≤ x) : (seenL l).set x.toNat (.bool true) = seenL (l ++ [x]) := by
  apply List.ext_getElem?
  intro i
  rw [List.getElem?_set]
  by_cases hi : i < 6
  · by_cases hx : x.toNat = i
    · have : (i : Int) = x := by omega
      simp [seenL, hx, hi, this]
    · have : (i : Int) ≠ x := by omega
      simp [seenL, hx, hi, this]
  · by_cases hx : x.toNat = i
    · simp [seenL, hx, hi]
    · simp [seenL, hx, hi]

theorem perm_long {xs : List Int} (h : 6 < xs.length) : permB xs = false := by
  refine decide_eq_false fun hp => ?_
  have := hp.1
  omega
theorem perm_out {xs : List Int} {k : Nat} (hk : k < xs.length) (h : xs.getD k 0 < 0 ∨ (xs.length : Int) ≤ xs.getD k 0) : permB xs = false := by
  have hm : xs.getD k 0 ∈ xs := by simp [List.getD_eq_getElem?_getD, hk]
  refine decide_eq_false fun hp => ?_
  have := hp.2.1 _ hm
  omega
theorem perm_twice {xs : List Int} {k : Nat} (hk : k < xs.length) (h : xs.getD k 0 ∈ xs.take k) : permB xs = false := by
  refine decide_eq_false fun hp => ?_
  have hn := hp.2.2
  have e : xs = xs.take k ++ xs.drop k := (List.take_append_drop k xs).symm
  have e2 : xs.drop k = xs.getD k 0 :: xs.drop (k + 1) := by
    rw [List.drop_eq_getElem_cons hk]
    simp [List.getD_eq_getElem?_getD, hk]
  rw [e, e2, List.nodup_append] at hn
  exact hn.2.2 _ h _ (by simp) rfl

def goodTo (xs : List Int) (k : Nat) : Prop := (∀ x ∈ xs.take k, 0 ≤ x ∧ x < xs.length) ∧ (xs.take k).Nodup
theorem goodTo_succ {xs : List Int} {k : Nat} (hk : k < xs.length) (h : goodTo xs k) (h0 : 0 ≤ xs.getD k 0) (h1 : xs.getD k 0 < xs.length) (hn : xs.getD k 0 ∉ xs.take k) : goodTo xs (k + 1) := by
  have e : xs.take (k + 1) = xs.take k ++ [xs.getD k 0] := by
    rw [List.take_succ_eq_append_getElem hk]
    simp [List.getD_eq_getElem?_getD, hk]
  unfold goodTo
  rw [e]
  refine ⟨?_, ?_⟩
  · intro x hx
    rcases List.mem_append.1 hx with hx | hx
    · exact h.1 x hx
    · simp only [List.mem_singleton] at hx
      subst hx
      exact ⟨h0, h1⟩
  · rw [List.nodup_append]
    refine ⟨h.2, by simp, ?_⟩
    intro a ha b hb
    simp only [List.mem_singleton] at hb
    subst hb
    rintro rfl
    exact hn ha
theorem goodTo_all {xs : List Int} {k : Nat} (hk : xs.length ≤ k) (h : goodTo xs k) (h6 : xs.length ≤ 6) : permB xs = true := by
  unfold goodTo at h
  rw [List.take_of_length_le hk] at h
  exact decide_eq_true ⟨h6, h.1, h.2⟩

set_option maxHeartbeats 400000 in
theorem group_Valid {a : Option Addr} {n c : Nat} {xs : List Int} {w : World} (hx : SlI w a n c xs) :
    Calls Try.prog 23 #[.slice a n c] w fun e w' => e = .returned (.bool (permB xs)) ∧ Ext w w' := by
  have hnn := hx.le
  have hl := hx.len
  have HL := Lib.hid hl
  by_cases h6 : n ≤ 6
  · clear hl
    go_enter Try.func23, Try.ntmps23
    go_wp2
    go_loopw [11] (fun i wr => ∃ k : Nat, k ≤ n ∧ i = .int .i64 k ∧ Ext w wr ∧ Arr wr w.heap.size 61 (seenL (xs.take k)) ∧ goodTo xs k) (fun i _ => n - (intOf i).toNat)
    case atStart => exact ⟨0, Nat.zero_le _, rfl, (Ext.refl w).alloc _, Arr.new w _ (seenL []), by simp [goodTo]⟩
    case round =>
      obtain ⟨k, hk, rfl, hE, hA, hG⟩ := hrel
      have hx := hx.ext hE
      by_cases hlt : k < n
      · obtain ⟨b2, o2, rfl, hc2⟩ := hx.at hlt
        have g3 := hc2 k hlt
        have hkl : k < xs.length := by have := HL.out; omega
        have ek : xs.take (k + 1) = xs.take k ++ [xs.getD k 0] := by
          rw [List.take_succ_eq_append_getElem hkl]
          simp [List.getD_eq_getElem?_getD, hkl]
        have po := @perm_out xs k hkl
        have pt := @perm_twice xs k hkl
        have ps := @goodTo_succ xs k hkl hG
        generalize hyk : xs.getD k 0 = y at *
        have EK := Lib.hid ek
        have PO := Lib.hid po
        have PT := Lib.hid pt
        have PS := Lib.hid ps
        clear hc2 hyk ek po pt ps
        by_cases hy0 : y < 0
        · go_wp2
          go_ret
          exact ⟨retB (PO.out (Or.inl hy0)), hE⟩
        · by_cases hy1 : (n : Int) ≤ y
          · go_wp2
            go_ret
            exact ⟨retB (PO.out (Or.inr (by have := HL.out; omega))), hE⟩
          · have hy6 : y.toNat < 6 := by omega
            have hy6' : y < 6 := by omega
            have hcy := hA.cell (i := y.toNat) (by rw [seenL_len]; exact hy6)
            have hfy := hA.frozen y.toNat
            rw [seenL_at _ hy6, show ((y.toNat : Nat) : Int) = y from by omega] at hcy
            by_cases hs : y ∈ xs.take k
            · simp only [hs, decide_true] at hcy
              go_wp2
              go_ret
              exact ⟨retB (PT.out hs), hE⟩
            · simp only [hs, decide_false] at hcy
              go_wp2
              go_roundw
              case rel =>
                refine ⟨k+1, by omega, by go_num, hE.setCell (Nat.le_refl _) _, ?_, PS.out (by omega) (by have := HL.out; omega) hs⟩
                have := hA.set y.toNat (.bool true)
                rw [seenL_set _ (by omega), ← EK.out] at this
                exact this
              case measure => simp [intOf]; omega
      · go_wp2
        go_ret
        exact ⟨retB (goodTo_all (by have := HL.out; omega) hG (by have := HL.out; omega)), hE⟩
  · clear hl
    go_enter Try.func23, Try.ntmps23
    go_wp2
    go_ret
    exact ⟨retB (perm_long (by have := HL.out; omega)), Ext.refl w⟩

theorem mod_lem {n m : Int} (hm : 0 < m) : (n.tmod m < 0 → n.tmod m + m = n % m) ∧ (¬ n.tmod m < 0 → n.tmod m = n % m) ∧ -m < n.tmod m ∧ n.tmod m < m := by
  have e : n % m = (n.tmod m) % m := by
    have h := Int.mul_tdiv_add_tmod n m
    generalize n.tdiv m = q at *
    generalize n.tmod m = r at *
    rw [← h, Int.mul_add_emod_self_left]
  have l1 : n.tmod m < m := Int.tmod_lt_of_pos n hm
  have l2 : -m < n.tmod m := by
    have h := Int.tmod_lt_of_pos (-n) hm
    rw [Int.neg_tmod] at h
    omega
  generalize n.tmod m = r at *
  refine ⟨fun h => ?_, fun h => ?_, l2, l1⟩
  · rw [e, ← Int.add_emod_right, Int.emod_eq_of_lt (by omega) (by omega)]
  · rw [e, Int.emod_eq_of_lt (by omega) (by omega)]

set_option maxHeartbeats 400000 in
theorem keep_Mod {n m : Int} {w : World} (hm : 0 < m) (hm2 : m ≤ 1000000) :
    Calls Try.prog 9 #[.int .i64 n, .int .i64 m] w fun e w' => e = .returned (.int .i64 (n % m)) ∧ w = w' := by
  have hne : (m == 0) = false := by simp; omega
  obtain ⟨c1, c2, c3, c4⟩ := @mod_lem n m hm
  have C1 := Lib.hid c1
  have C2 := Lib.hid c2
  clear c1 c2
  go_enter Try.func9, Try.ntmps9
  go_wp2
  · go_ret
    exact ⟨retN (C1.out (by assumption)).symm, rfl⟩
  · go_ret
    exact ⟨retN (C2.out (by omega)).symm, rfl⟩

end Go.Proofs.Ytegmbdkdgpeahaa
