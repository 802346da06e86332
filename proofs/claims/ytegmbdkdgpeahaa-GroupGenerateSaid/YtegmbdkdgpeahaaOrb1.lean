/- The plain law of moving monomials: moving is composing with the inverse. -/
import Derived.Test.YtegmbdkdgpeahaaMoved
import Derived.Test.YtegmbdkdgpeahaaLawG
namespace Go.Proofs.Ytegmbdkdgpeahaa
open Go Go.RowKit

theorem getD_setI {l : List Int} {i j : Nat} {v : Int} (hi : i < l.length) : (l.set i v).getD j 0 = if i = j then v else l.getD j 0 := by
  simp only [List.getD_eq_getElem?_getD, List.getElem?_set]
  by_cases h : i = j
  · subst h
    simp [hi]
  · simp [h]

theorem mv_inv {a m : List Int} (hp : permB a = true) (hl : m.length = a.length) : ∀ k, k ≤ a.length → ∀ j : Nat, (∃ i, i < k ∧ a.getD i 0 = (j : Int)) → (mvTo a m k).getD j 0 = m.getD ((invTo a k).getD j 0).toNat 0
  | 0, _, j, ⟨i, hi, _⟩ => by omega
  | k + 1, hk, j, ⟨i, hi, he⟩ => by
    have h0 := perm_at hp (i := k) (by omega)
    show ((mvTo a m k).set (a.getD k 0).toNat (m.getD k 0)).getD j 0 = m.getD (((invTo a k).set (a.getD k 0).toNat k).getD j 0).toNat 0
    rw [getD_setI (by rw [mvTo_len]; omega), getD_setI (by rw [invTo_len]; omega)]
    by_cases hj : (a.getD k 0).toNat = j
    · rw [if_pos hj, if_pos hj]
      simp
    · rw [if_neg hj, if_neg hj]
      refine mv_inv hp hl k (by omega) j ⟨i, ?_, he⟩
      rcases Nat.lt_or_ge i k with h | h
      · exact h
      · have : i = k := by omega
        subst this
        omega

theorem mvd_comp {a m : List Int} (hp : permB a = true) (hl : m.length = a.length) : mvd a m = comp m (invTo a a.length) := by
  have hi := inv_perm hp
  have hr := inv_right hp
  apply List.ext_getElem
  · rw [mvd, mvTo_len, comp_len, invTo_len, hl]
  · intro j h1 h2
    have hj : j < a.length := by rw [mvd, mvTo_len, hl] at h1; exact h1
    have hji : j < (invTo a a.length).length := by rw [invTo_len]; exact hj
    have hb := perm_at hi hji
    rw [invTo_len] at hb
    have e := mv_inv hp hl a.length (Nat.le_refl _) j ⟨((invTo a a.length).getD j 0).toNat, by omega, by
      have : (comp a (invTo a a.length)).getD j 0 = (idn a.length).getD j 0 := by rw [hr]
      unfold comp at this
      rw [getD_map_lt hji, idn_getD hj] at this
      exact this⟩
    have e1 : (mvd a m)[j] = (mvd a m).getD j 0 := by simp [List.getD_eq_getElem?_getD, h1]
    have e2 : (comp m (invTo a a.length))[j] = (comp m (invTo a a.length)).getD j 0 := by simp [List.getD_eq_getElem?_getD, h2]
    rw [e1, e2]
    unfold comp
    rw [getD_map_lt hji]
    unfold mvd
    rw [hl]
    exact e

end Go.Proofs.Ytegmbdkdgpeahaa
