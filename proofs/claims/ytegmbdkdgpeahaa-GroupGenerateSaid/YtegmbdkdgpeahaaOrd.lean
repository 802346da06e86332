/- The contract of group.Order. -/
import Derived.Test.YtegmbdkdgpeahaaPerm
namespace Go.Proofs.Ytegmbdkdgpeahaa
open Go Go.RowKit

theorem idn_getD {n k : Nat} (h : k < n) : (idn n).getD k 0 = k := by
  simp [idn, List.getD_eq_getElem?_getD, h]
theorem comp_idn (xs : List Int) : comp xs (idn xs.length) = xs := by
  apply List.ext_getElem
  · simp [comp, idn]
  · intro i h1 h2
    simp [comp, idn, h2]
theorem pw_one (xs : List Int) : pw xs 1 = xs := comp_idn xs
theorem pw_len (xs : List Int) : ∀ k, (pw xs k).length = xs.length
  | 0 => by simp [pw, idn]
  | k + 1 => by simp [pw, comp_len, pw_len xs k]
theorem idn_perm {n : Nat} (h : n ≤ 6) : permB (idn n) = true := by
  refine decide_eq_true ⟨by rw [idn_len]; exact h, ?_, ?_⟩
  · intro x hx
    rw [idn_len]
    exact mem_idn.1 hx
  · unfold idn
    rw [List.Nodup, List.pairwise_map]
    refine List.Pairwise.imp ?_ List.nodup_range
    intro a b hab h
    exact hab (Int.ofNat.inj h)
theorem pw_perm {xs : List Int} (h : permB xs = true) : ∀ k, permB (pw xs k) = true
  | 0 => idn_perm (perm_spec h).1
  | k + 1 => comp_perm h (pw_perm h k) (pw_len xs k).symm

def orderS (xs : List Int) : Int × Int := if permB xs = true then (ordS xs, 0) else (0, 1)

set_option maxHeartbeats 400000 in
theorem group_Order {a : Option Addr} {n c : Nat} {xs : List Int} {w : World} (hx : SlI w a n c xs) :
    Calls Try.prog 13 #[.slice a n c] w fun e w' => e = .returned (.tuple #[.int .i64 (orderS xs).1, .int .i64 (orderS xs).2]) ∧ Ext w w' := by
  have HX := Lib.hid hx.len
  have hnn := hx.le
  by_cases p1 : permB xs = true
  · have h6 : n ≤ 6 := by have := (perm_spec p1).1; have h := HX.out; omega
    have HS : Hid (orderS xs = ((ordS xs : Int), 0)) := by
      show orderS xs = _
      unfold orderS
      rw [if_pos p1]
    obtain ⟨o1, o2, o3, o4⟩ := ord_spec p1
    have O3 := Lib.hid o3
    have O4 := Lib.hid o4
    clear o3 o4
    go_enter Try.func13, Try.ntmps13
    go_wp2_with fail
    refine (group_Valid hx).mono ?_
    rintro e w1 ⟨rfl, hE1⟩
    go_wp2_with fail
    refine (group_identity (by omega)).mono ?_
    rintro e w2 ⟨a2, n2, c2, rfl, hE2, hO2⟩
    have hx2 := hx.ext (hE1.trans hE2)
    have hs2 := OwnI.sl hO2
    clear hO2
    go_wp2_with fail
    go_loopw [5, 6] (fun i v wr => ∃ k : Nat, ∃ a' c', 1 ≤ k ∧ k ≤ ordS xs ∧ i = .int .i64 k ∧ v = .slice a' n c' ∧ Ext w2 wr ∧ SlI wr a' n c' (pw xs k)) (fun i _ _ => ordS xs - (intOf i).toNat)
    case atStart => exact ⟨1, a, c, Nat.le_refl _, o1, rfl, rfl, Ext.refl _, by rw [pw_one]; exact hx2⟩
    case round =>
      obtain ⟨k, a', c', hk1, hk, rfl, rfl, hE, hP⟩ := hrel
      by_cases hid : pw xs k = idn n
      · have hd : decide (pw xs k = idn n) = true := by simp [hid]
        have ek : k = ordS xs := by
          rcases Nat.lt_or_ge k (ordS xs) with h | h
          · exact absurd (by rw [hid, HX.out]) (O4.out k hk1 h)
          · omega
        have EK := Lib.hid ek
        clear ek hid
        go_wp2_with fail
        refine (slices_Equal hP (hs2.ext hE)).mono ?_
        rintro e w3 ⟨rfl, hQ3⟩
        go_wp2
        go_ret2
        rw [HS.out]
        refine ⟨?_, ((hE1.trans hE2).trans hE).trans hQ3.ext⟩
        rw [← EK.out]
        rfl
      · have hd : decide (pw xs k = idn n) = false := by simp [hid]
        have hko : k < ordS xs := by
          rcases Nat.lt_or_ge k (ordS xs) with h | h
          · exact h
          · have e : k = ordS xs := by omega
            exact absurd (by rw [e, O3.out, HX.out]) hid
        clear hid
        go_wp2_with fail
        refine (slices_Equal hP (hs2.ext hE)).mono ?_
        rintro e w3 ⟨rfl, hQ3⟩
        have hE3 := hE.trans hQ3.ext
        go_wp2_with fail
        refine (group_compose (hx2.ext hE3) (hP.ext hQ3.ext) ?_ (by omega)).mono ?_
        · intro i hi
          have := perm_at (pw_perm p1 k) (i := i) (by rw [pw_len]; have := HX.out; omega)
          rw [pw_len, HX.out] at this
          exact this
        rintro e w4 ⟨a4, n4, c4, rfl, hE4, hO4⟩
        have hl4 : n4 = n := by
          have := hO4.sl.len
          rw [comp_len, pw_len, HX.out] at this
          exact this.symm
        subst hl4
        go_wp2
        go_roundw
        case rel => exact ⟨k+1, _, _, by omega, by omega, by go_num, rfl, hE3.trans hE4, hO4.sl⟩
        case measure => simp [intOf]; omega
  · have p1' : permB xs = false := by simpa using p1
    have HS : Hid (orderS xs = (0, 1)) := by
      show orderS xs = (0, 1)
      unfold orderS
      rw [if_neg p1]
    go_enter Try.func13, Try.ntmps13
    go_wp2_with fail
    refine (group_Valid hx).mono ?_
    rintro e w1 ⟨rfl, hE1⟩
    go_wp2
    go_ret2
    rw [HS.out]
    exact ⟨rfl, hE1⟩

end Go.Proofs.Ytegmbdkdgpeahaa
