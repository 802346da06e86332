/- Words for the sort of a slice of slices of ints; the contract of insertionSortCmpFunc. -/
import Derived.Test.YtegmbdkdgpeahaaCmp
import Derived.BigRegion
namespace Go.Proofs.Ytegmbdkdgpeahaa
open Go Go.RowKit

def swapL (l : List (List Int)) (i j : Nat) : List (List Int) := (l.set i (l.getD j [])).set j (l.getD i [])
theorem swapL_len (l : List (List Int)) (i j : Nat) : (swapL l i j).length = l.length := by simp [swapL]
theorem swapL_at {l : List (List Int)} {i j : Nat} (hi : i < l.length) (hj : j < l.length) (k : Nat) : (swapL l i j).getD k [] = if k = j then l.getD i [] else if k = i then l.getD j [] else l.getD k [] := by
  simp only [swapL, List.getD_eq_getElem?_getD, List.getElem?_set]
  by_cases h1 : j = k
  · subst h1
    simp [hj]
  · by_cases h2 : i = k
    · subst h2
      simp [h1, hi, Ne.symm h1]
    · simp [h1, h2, Ne.symm h1, Ne.symm h2]
theorem swapL_perm {l : List (List Int)} {i j : Nat} (hi : i < l.length) (hj : j < l.length) : (swapL l i j).Perm l := by
  have h := Array.swap_perm (xs := l.toArray) (i := i) (j := j) (by simpa using hi) (by simpa using hj)
  have h2 := Array.perm_iff_toList_perm.1 h
  simpa [swapL, List.getD_eq_getElem?_getD, hi, hj] using h2

/-- The call's own slice of slices of ints, whole from block g's head on. -/
def Srt (w : World) (base g n c : Nat) (ps : List (List Int)) : Prop :=
  ps.length = n ∧ ∃ cells, Own w base 22 (some ⟨g, 0, none⟩) n c cells ∧ QEl w base cells ps

theorem own_ne_own {w : World} {base base' : Nat} {e e' : TypeId} {a a' : Option Addr} {n c n' c' : Nat} {cs cs' : List Value} (h : Own w base e a n c cs) (h' : Own w base' e' a' n' c' cs') (hne : e ≠ e') : blk a = none ∨ blk a ≠ blk a' :=
  own_ne_ownO h (OwnO.of h') hne

section
variable {w w' : World} {base g n c : Nat} {ps : List (List Int)}
theorem Srt.len (h : Srt w base g n c ps) : ps.length = n := h.1
theorem Srt.le (h : Srt w base g n c ps) : n ≤ 9223372036854775807 := by
  obtain ⟨_, cells, h1, _⟩ := h
  have := h1.sl.max
  have h2 := h1.cap
  unfold maxLen at this
  omega
theorem Srt.qt (h : Srt w base g n c ps) (e : Qt w w') : Srt w' base g n c ps := by
  obtain ⟨h0, cells, h1, h2⟩ := h
  exact ⟨h0, cells, h1.ext e.ext, h2.ext e.ext⟩
theorem Srt.at (h : Srt w base g n c ps) {k : Nat} (hk : k < n) : ∃ a m c', w.cell? ⟨g, k, none⟩ = some (.slice a m c') ∧ SlI w a m c' (ps.getD k []) ∧ w.frozen? ⟨g, k, none⟩ = false := by
  obtain ⟨h0, cells, h1, h2⟩ := h
  obtain ⟨a, m, c', e1, h3⟩ := h2 k (by omega)
  exact ⟨a, m, c', by rw [h1.cellAt hk, e1], h3.sl, h1.frozenAt k⟩
theorem Srt.swap (h : Srt w base g n c ps) {i j : Nat} {u v : Value} (hi : i < n) (hj : j < n) (hu : w.cell? ⟨g, i, none⟩ = some u) (hv : w.cell? ⟨g, j, none⟩ = some v) :
    Srt ((w.setCell ⟨g, i, none⟩ v).setCell ⟨g, j, none⟩ u) base g n c (swapL ps i j) ∧ w.grownBy ((w.setCell ⟨g, i, none⟩ v).setCell ⟨g, j, none⟩ u) (some g) := by
  obtain ⟨h0, cells, h1, h2⟩ := h
  have g1 := grown_setCell w g i v
  have g2 := grown_setCell (w.setCell ⟨g, i, none⟩ v) g j u
  have hgr : w.grownBy ((w.setCell ⟨g, i, none⟩ v).setCell ⟨g, j, none⟩ u) (some g) :=
    ⟨rfl, rfl, rfl, Nat.le_trans g1.size g2.size, fun k hk hne => (g2.block k (Nat.lt_of_lt_of_le hk g1.size) hne).trans (g1.block k hk hne)⟩
  refine ⟨⟨by rw [swapL_len]; exact h0, (cells.set i v).set j u, (h1.stored i v).stored j u, ?_⟩, hgr⟩
  have hcl := h1.len
  have eu : cells.getD i undef = u := by have := h1.cellAt hi; rw [hu] at this; simpa using this.symm
  have ev : cells.getD j undef = v := by have := h1.cellAt hj; rw [hv] at this; simpa using this.symm
  have hQ := h2.kept hgr (fun _ _ _ _ hx => own_ne_own hx h1 (by decide))
  intro k hk
  rw [swapL_len] at hk
  rw [swapL_at (by omega) (by omega)]
  by_cases hkj : k = j
  · subst hkj
    obtain ⟨a, m, c', e1, h3⟩ := hQ i (by omega)
    refine ⟨a, m, c', ?_, by simpa using h3⟩
    rw [← e1, eu]
    simp [List.getD_eq_getElem?_getD, hcl, hj]
  · by_cases hki : k = i
    · subst hki
      obtain ⟨a, m, c', e1, h3⟩ := hQ j (by omega)
      refine ⟨a, m, c', ?_, by simpa [hkj] using h3⟩
      rw [← e1, ev]
      simp [List.getD_eq_getElem?_getD, hcl, hi, Ne.symm hkj]
    · obtain ⟨a, m, c', e1, h3⟩ := hQ k hk
      refine ⟨a, m, c', ?_, by simpa [hkj, hki] using h3⟩
      rw [← e1]
      simp [List.getD_eq_getElem?_getD, Ne.symm hkj, Ne.symm hki]
end

/-- in order from a to b -/
def ordOn (ps : List (List Int)) (a b : Nat) : Prop := ∀ i j, a ≤ i → i < j → j < b → cmpL (ps.getD i []) (ps.getD j []) ≤ 0
/-- only what lies from a to b has been moved -/
def movedOn (ps0 ps : List (List Int)) (a b : Nat) : Prop := ps.Perm ps0 ∧ ∀ i, (i < a ∨ b ≤ i) → ps.getD i [] = ps0.getD i []
theorem movedOn.refl (ps : List (List Int)) (a b : Nat) : movedOn ps ps a b := ⟨List.Perm.refl _, fun _ _ => rfl⟩
theorem movedOn.swap {ps0 ps : List (List Int)} {a b i j : Nat} (h : movedOn ps0 ps a b) (hi : i < ps.length) (hj : j < ps.length) (ai : a ≤ i) (bi : i < b) (aj : a ≤ j) (bj : j < b) : movedOn ps0 (swapL ps i j) a b := by
  refine ⟨(swapL_perm hi hj).trans h.1, fun k hk => ?_⟩
  rw [swapL_at hi hj, if_neg (by omega), if_neg (by omega)]
  exact h.2 k hk

/-- the inner loop of the insertion sort -/
structure InsI (ps : List (List Int)) (a j i : Nat) : Prop where
  lo : ordOn ps a j
  hi : ordOn ps j (i + 1)
  mid : ∀ x y, a ≤ x → x < j → j < y → y ≤ i → cmpL (ps.getD x []) (ps.getD y []) ≤ 0

theorem InsI.start {ps : List (List Int)} {a i : Nat} (h : ordOn ps a i) : InsI ps a i i := ⟨h, fun x y h1 h2 h3 => by omega, fun x y _ _ _ _ => by omega⟩
theorem InsI.stop {ps : List (List Int)} {a j i : Nat} (h : InsI ps a j i) (haj : a ≤ j) (hji : j ≤ i) (hs : j = a ∨ (0 < j ∧ ¬ cmpL (ps.getD j []) (ps.getD (j - 1) []) < 0)) : ordOn ps a (i + 1) := by
  intro x y h1 h2 h3
  by_cases hx : j ≤ x
  · exact h.hi x y hx h2 h3
  · by_cases hy : y < j
    · exact h.lo x y h1 h2 hy
    · by_cases hyj : y = j
      · subst hyj
        rcases hs with h4 | ⟨_, h4⟩
        · omega
        · have h5 : cmpL (ps.getD (y - 1) []) (ps.getD y []) ≤ 0 := by rw [cmpL_anti]; omega
          by_cases hx1 : x = y - 1
          · rw [hx1]; exact h5
          · exact cmpL_trans (h.lo x (y - 1) h1 (by omega) (by omega)) h5
      · exact h.mid x y h1 (by omega) (by omega) (by omega)
theorem InsI.step {ps : List (List Int)} {a j i : Nat} (h : InsI ps a j i) (haj : a < j) (hji : j ≤ i) (hil : i < ps.length) (hs : cmpL (ps.getD j []) (ps.getD (j - 1) []) < 0) : InsI (swapL ps j (j - 1)) a (j - 1) i := by
  have e := @swapL_at ps j (j - 1) (by omega) (by omega)
  refine ⟨?_, ?_, ?_⟩
  · intro x y h1 h2 h3
    rw [e, e, if_neg (by omega), if_neg (by omega), if_neg (by omega), if_neg (by omega)]
    exact h.lo x y h1 h2 (by omega)
  · intro x y h1 h2 h3
    rw [e, e]
    by_cases hx : x = j - 1
    · rw [if_pos hx, if_neg (show ¬ y = j - 1 by omega)]
      by_cases hy : y = j
      · rw [if_pos hy]; omega
      · rw [if_neg hy]
        exact h.hi j y (Nat.le_refl _) (by omega) h3
    · rw [if_neg hx, if_neg (show ¬ y = j - 1 by omega), if_neg (show ¬ y = j by omega)]
      by_cases hxj : x = j
      · rw [if_pos hxj]
        exact h.mid (j - 1) y (by omega) (by omega) (by omega) (by omega)
      · rw [if_neg hxj]
        exact h.hi x y (by omega) h2 h3
  · intro x y h1 h2 h3 h4
    rw [e, e, if_neg (show ¬ x = j - 1 by omega), if_neg (show ¬ x = j by omega), if_neg (show ¬ y = j - 1 by omega)]
    by_cases hy : y = j
    · rw [if_pos hy]
      exact h.lo x (j - 1) h1 h2 (by omega)
    · rw [if_neg hy]
      exact h.mid x y h1 (by omega) (by omega) h4

end Go.Proofs.Ytegmbdkdgpeahaa
