/- What moving a monomial by a permutation writes, and the contract of the reference's Moved. -/
import Derived.Test.YtegmbdkdgpeahaaRef1
namespace Go.Proofs.Ytegmbdkdgpeahaa
open Go Go.RowKit

/-- what is written after k steps -/
def mvTo (a m : List Int) : Nat → List Int
  | 0 => List.replicate m.length 0
  | k + 1 => (mvTo a m k).set (a.getD k 0).toNat (m.getD k 0)
def mvd (a m : List Int) : List Int := mvTo a m m.length
theorem mvTo_len (a m : List Int) : ∀ k, (mvTo a m k).length = m.length
  | 0 => by simp [mvTo]
  | k + 1 => by simp [mvTo, mvTo_len a m k]

set_option maxHeartbeats 400000 in
theorem ref_Moved {a b : Option Addr} {n c d : Nat} {xs ys : List Int} {w : World} (hx : SlI w a n c xs) (hy : SlI w b n d ys) (p1 : permB xs = true) :
    Calls Try.prog 46 #[.slice a n c, .slice b n d] w (RetI w (mvd xs ys)) := by
  have HX := Lib.hid hx.len
  have HY := Lib.hid hy.len
  have h6 : n ≤ 6 := by have := (perm_spec p1).1; have h := HX.out; omega
  go_enter Try.func46, Try.ntmps46
  go_wp2_with (at_make; refine wl_mk rfl rfl Try.underlying22 info_int rfl rfl rfl (by omega) (by unfold maxLen; omega) ?_; intro w2 hO2 hE2)
  go_loopw [6] (fun i wr => ∃ k : Nat, k ≤ n ∧ i = .int .i64 k ∧ Ext w wr ∧ OwnI wr w.heap.size (some ⟨w.heap.size, 0, none⟩) n n (mvTo xs ys k)) (fun i _ => n - (intOf i).toNat)
  case atStart => exact ⟨0, Nat.zero_le _, rfl, hE2, by unfold OwnI; rw [show mvTo xs ys 0 = List.replicate ys.length 0 from rfl, HY.out]; simpa using hO2⟩
  case round =>
    clear hO2 hE2
    obtain ⟨k, hk, rfl, hE, hO⟩ := hrel
    have hx := hx.ext hE
    have hy := hy.ext hE
    by_cases hlt : k < n
    · obtain ⟨b2, o2, rfl, hc2⟩ := hx.at hlt
      obtain ⟨b3, o3, rfl, hc3⟩ := hy.at hlt
      have g3 := hc2 k hlt
      have g4 := hc3 k hlt
      have hik := perm_at p1 (i := k) (by have := HX.out; omega)
      have e1 : mvTo xs ys (k + 1) = (mvTo xs ys k).set (xs.getD k 0).toNat (ys.getD k 0) := rfl
      rw [HX.out] at hik
      generalize hyk : xs.getD k 0 = y at *
      generalize hzk : ys.getD k 0 = z at *
      obtain ⟨y0, y1⟩ := hik
      have g1 := Own.cellAt hO (j := y.toNat) (by omega)
      have g2 := Own.frozenAt hO y.toNat
      have EK := Lib.hid e1
      clear hc2 hc3 hyk hzk e1
      go_upto_region 5 with (fail)
      go_region
      all_goals
        go_wp2
        go_roundw
        case rel =>
          refine ⟨k + 1, by omega, by go_num, (Ext.setCell (Ext.drew hE) (Nat.le_refl _) _), ?_⟩
          have := Own.stored (Own.drew hO) y.toNat (.int .i64 z)
          unfold OwnI
          rw [EK.out, List.map_set]
          exact this
        case measure => simp [intOf]; omega
    · have e : k = n := by omega
      go_wp2
      go_ret
      subst e
      have : mvd xs ys = mvTo xs ys k := by unfold mvd; rw [HY.out]
      rw [this]
      exact ⟨_, _, _, rfl, hE, hO⟩

end Go.Proofs.Ytegmbdkdgpeahaa
