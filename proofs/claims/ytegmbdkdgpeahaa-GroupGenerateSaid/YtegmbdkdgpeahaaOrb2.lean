/- The plain law of orbits: two monomials have one least image exactly if an element of the group moves one to the other. -/
import Derived.Test.YtegmbdkdgpeahaaRep
namespace Go.Proofs.Ytegmbdkdgpeahaa
open Go Go.RowKit

theorem brute4 : ∀ n, n < 7 → ∀ xs ∈ gen n (idn n), (comp (invTo xs xs.length) xs == idn xs.length) = true := by decide +kernel
theorem inv_left {xs : List Int} (h : permB xs = true) : comp (invTo xs xs.length) xs = idn xs.length := by
  have := brute4 _ (perm_gen h).1 _ (perm_gen h).2
  simpa using this

theorem mvd_len (a m : List Int) : (mvd a m).length = m.length := by rw [mvd, mvTo_len]

theorem mvd_iff {a x y : List Int} (hp : permB a = true) (hx : x.length = a.length) (hy : y.length = a.length) : mvd a x = y ↔ x = comp y a := by
  have hi := inv_perm hp
  have b1 : ∀ z ∈ a, 0 ≤ z ∧ z < a.length := (perm_spec hp).2.1
  have b2 : ∀ z ∈ invTo a a.length, 0 ≤ z ∧ z < a.length := by
    have := (perm_spec hi).2.1
    rw [invTo_len] at this
    exact this
  rw [mvd_comp hp hx]
  constructor
  · rintro rfl
    rw [comp_assoc (by rw [invTo_len]; exact b1), inv_left hp, ← hx, comp_idn]
  · rintro rfl
    rw [comp_assoc b2, inv_right hp, ← hy, comp_idn]

/-- some element of the group moves x to y -/
def RelG (gs : List (List Int)) (x y : List Int) : Prop := ∃ g ∈ gs, mvd g x = y

theorem pw_mem {gs : List (List Int)} (hg : isG gs) {g : List Int} (h : g ∈ gs) (k : Nat) : pw g k ∈ gs := by
  refine hg.closed _ ⟨List.replicate k g, fun x hx => by rw [(List.mem_replicate.1 hx).2]; exact h, ?_⟩
  have hl := (hg.perms g h).2
  induction k with
  | zero => simp [pw, hl]
  | succ k ih => rw [List.replicate_succ, List.foldr_cons, ← ih]; rfl

theorem RelG.iff {gs : List (List Int)} (hg : isG gs) {x y : List Int} (hx : x.length = (gs.getD 0 []).length) (hy : y.length = (gs.getD 0 []).length) : RelG gs x y ↔ ∃ g ∈ gs, x = comp y g := by
  constructor
  · rintro ⟨g, h1, h2⟩
    obtain ⟨p, l⟩ := hg.perms g h1
    exact ⟨g, h1, (mvd_iff p (by rw [hx, l]) (by rw [hy, l])).1 h2⟩
  · rintro ⟨g, h1, h2⟩
    obtain ⟨p, l⟩ := hg.perms g h1
    exact ⟨g, h1, (mvd_iff p (by rw [hx, l]) (by rw [hy, l])).2 h2⟩
theorem RelG.refl {gs : List (List Int)} (hg : isG gs) {x : List Int} (hx : x.length = (gs.getD 0 []).length) : RelG gs x x := by
  rw [RelG.iff hg hx hx]
  refine ⟨idn (gs.getD 0 []).length, hg.closed _ (reach_id _ _), ?_⟩
  rw [← hx, comp_idn]
theorem RelG.symm {gs : List (List Int)} (hg : isG gs) {x y : List Int} (hx : x.length = (gs.getD 0 []).length) (hy : y.length = (gs.getD 0 []).length) (h : RelG gs x y) : RelG gs y x := by
  rw [RelG.iff hg hx hy] at h
  rw [RelG.iff hg hy hx]
  obtain ⟨g, h1, rfl⟩ := h
  obtain ⟨p, l⟩ := hg.perms g h1
  obtain ⟨o1, o2, o3, _⟩ := ord_spec p
  refine ⟨pw g (ordS g - 1), pw_mem hg h1 _, ?_⟩
  have hpp := pw_perm p (ordS g - 1)
  have hpl := pw_len g (ordS g - 1)
  have e : comp g (pw g (ordS g - 1)) = idn g.length := by
    rw [← o3]
    obtain ⟨k, hk⟩ : ∃ k, ordS g = k + 1 := ⟨ordS g - 1, by omega⟩
    rw [hk]
    rfl
  rw [comp_assoc (by have := (perm_spec hpp).2.1; rw [hpl] at this; exact this), e, l, ← hy, comp_idn]
theorem RelG.trans {gs : List (List Int)} (hg : isG gs) {x y z : List Int} (hx : x.length = (gs.getD 0 []).length) (hy : y.length = (gs.getD 0 []).length) (hz : z.length = (gs.getD 0 []).length) (h : RelG gs x y) (k : RelG gs y z) : RelG gs x z := by
  rw [RelG.iff hg hx hy] at h
  rw [RelG.iff hg hy hz] at k
  rw [RelG.iff hg hx hz]
  obtain ⟨g, h1, rfl⟩ := h
  obtain ⟨g', h2, rfl⟩ := k
  obtain ⟨p, l⟩ := hg.perms g h1
  obtain ⟨p', l'⟩ := hg.perms g' h2
  obtain ⟨i, hi, rfl⟩ := mem_getD h1
  obtain ⟨j, hj, rfl⟩ := mem_getD h2
  refine ⟨_, hg.comp hj hi, ?_⟩
  rw [comp_assoc (by have := (perm_spec p).2.1; rw [l, ← l'] at this; exact this)]

theorem repTo_le {gs : List (List Int)} {m : List Int} : ∀ k, cmpL (repTo gs m k) m ≤ 0 ∧ ∀ j, j < k → cmpL (repTo gs m k) (mvd (gs.getD j []) m) ≤ 0
  | 0 => ⟨by rw [repTo, cmpL_self]; omega, fun j hj => by omega⟩
  | k + 1 => by
    obtain ⟨h1, h2⟩ := repTo_le (gs := gs) (m := m) k
    unfold repTo
    by_cases hc : cmpL (mvd (gs.getD k []) m) (repTo gs m k) < 0
    · rw [if_pos hc]
      refine ⟨cmpL_trans (by omega) h1, fun j hj => ?_⟩
      by_cases he : j = k
      · subst he
        rw [cmpL_self]
        omega
      · exact cmpL_trans (by omega) (h2 j (by omega))
    · rw [if_neg hc]
      refine ⟨h1, fun j hj => ?_⟩
      by_cases he : j = k
      · subst he
        have := cmpL_anti (mvd (gs.getD j []) m) (repTo gs m j)
        omega
      · exact h2 j (by omega)
theorem repTo_in {gs : List (List Int)} {m : List Int} : ∀ k, k ≤ gs.length → repTo gs m k = m ∨ RelG gs m (repTo gs m k)
  | 0, _ => Or.inl rfl
  | k + 1, hk => by
    unfold repTo
    split
    · exact Or.inr ⟨_, getD_mem (by omega), rfl⟩
    · exact repTo_in k (by omega)
theorem rep_rel {gs : List (List Int)} (hg : isG gs) {x : List Int} (hx : x.length = (gs.getD 0 []).length) : RelG gs x (repS gs x) := by
  rcases repTo_in (gs := gs) (m := x) gs.length (Nat.le_refl _) with h | h
  · have := RelG.refl hg hx
    unfold repS
    rw [h]
    exact this
  · exact h
theorem rep_le {gs : List (List Int)} {x y : List Int} (h : RelG gs x y) : cmpL (repS gs x) y ≤ 0 := by
  obtain ⟨g, h1, rfl⟩ := h
  obtain ⟨i, hi, rfl⟩ := mem_getD h1
  exact (repTo_le gs.length).2 i hi
theorem rep_len (gs : List (List Int)) (x : List Int) : (repS gs x).length = x.length := repTo_len gs x _
theorem rep_iff {gs : List (List Int)} (hg : isG gs) {x y : List Int} (hx : x.length = (gs.getD 0 []).length) (hy : y.length = (gs.getD 0 []).length) : RelG gs x y ↔ repS gs x = repS gs y := by
  have lx : (repS gs x).length = (gs.getD 0 []).length := by rw [rep_len, hx]
  have ly : (repS gs y).length = (gs.getD 0 []).length := by rw [rep_len, hy]
  constructor
  · intro h
    have h1 := rep_le (RelG.trans hg hy hx lx (RelG.symm hg hx hy h) (rep_rel hg hx))
    have h2 := rep_le (RelG.trans hg hx hy ly h (rep_rel hg hy))
    have := cmpL_anti (repS gs x) (repS gs y)
    exact cmpL_eq (by omega)
  · intro h
    have h1 := rep_rel hg hx
    have h2 := rep_rel hg hy
    rw [h] at h1
    exact RelG.trans hg hx ly hy h1 (RelG.symm hg hy ly h2)

/-- the different keys among the first i, in the order in which they come -/
def dk (ks : List (List Int)) : Nat → List (List Int)
  | 0 => []
  | i + 1 => if ks.getD i [] ∈ dk ks i then dk ks i else dk ks i ++ [ks.getD i []]
/-- the places of a key among the first n -/
def idxL (ks : List (List Int)) (n : Nat) (κ : List Int) : List Int := ((List.range n).filter (fun j => decide (ks.getD j [] = κ))).map Int.ofNat
def orbS (ks : List (List Int)) : List (List Int) := (dk ks ks.length).map (idxL ks ks.length)

theorem dk_mem {ks : List (List Int)} {κ : List Int} : ∀ {i : Nat}, κ ∈ dk ks i ↔ ∃ j, j < i ∧ ks.getD j [] = κ
  | 0 => by simp [dk]
  | i + 1 => by
    unfold dk
    by_cases h : ks.getD i [] ∈ dk ks i
    · rw [if_pos h, dk_mem]
      constructor
      · rintro ⟨j, hj, e⟩
        exact ⟨j, by omega, e⟩
      · rintro ⟨j, hj, e⟩
        by_cases he : j = i
        · subst he
          rw [e] at h
          exact dk_mem.1 h
        · exact ⟨j, by omega, e⟩
    · rw [if_neg h, List.mem_append, dk_mem, List.mem_singleton]
      constructor
      · rintro (⟨j, hj, e⟩ | e)
        · exact ⟨j, by omega, e⟩
        · exact ⟨i, by omega, e.symm⟩
      · rintro ⟨j, hj, e⟩
        by_cases he : j = i
        · subst he
          exact Or.inr e.symm
        · exact Or.inl ⟨j, by omega, e⟩
theorem dk_nodup (ks : List (List Int)) : ∀ i, (dk ks i).Nodup
  | 0 => by simp [dk]
  | i + 1 => by
    unfold dk
    split
    · exact dk_nodup ks i
    · rename_i h
      rw [List.nodup_append]
      refine ⟨dk_nodup ks i, by simp, ?_⟩
      intro a ha b hb
      simp only [List.mem_singleton] at hb
      subst hb
      rintro rfl
      exact h ha
theorem dk_len (ks : List (List Int)) : ∀ i, (dk ks i).length ≤ i
  | 0 => by simp [dk]
  | i + 1 => by
    have := dk_len ks i
    unfold dk
    split
    · omega
    · simp; omega
theorem idxL_succ (ks : List (List Int)) (n : Nat) (κ : List Int) : idxL ks (n + 1) κ = if ks.getD n [] = κ then idxL ks n κ ++ [(n : Int)] else idxL ks n κ := by
  unfold idxL
  rw [List.range_succ, List.filter_append, List.map_append]
  by_cases h : ks.getD n [] = κ
  · rw [if_pos h]
    have : List.filter (fun j => decide (ks.getD j [] = κ)) [n] = [n] := by rw [List.filter_cons]; simp only [h, decide_true, if_true, List.filter_nil]
    rw [this]
    rfl
  · rw [if_neg h]
    have : List.filter (fun j => decide (ks.getD j [] = κ)) [n] = [] := by rw [List.filter_cons]; simp only [h, decide_false, List.filter_nil]; rfl
    rw [this]
    simp
theorem idxL_none {ks : List (List Int)} {n : Nat} {κ : List Int} (h : κ ∉ dk ks n) : idxL ks n κ = [] := by
  unfold idxL
  rw [List.map_eq_nil_iff, List.filter_eq_nil_iff]
  intro j hj
  simp only [decide_eq_true_eq]
  intro e
  exact h (dk_mem.2 ⟨j, by simpa using hj, e⟩)

/-- one step of the program -/
theorem orb_step {ks D : List (List Int)} {i j : Nat} (hn : D.Nodup) (hj : j < D.length) (he : D.getD j [] = ks.getD i []) :
    D.map (idxL ks (i + 1)) = (D.map (idxL ks i)).set j ((D.map (idxL ks i)).getD j [] ++ [(i : Int)]) := by
  apply List.ext_getElem
  · simp
  · intro k h1 h2
    have hk : k < D.length := by simpa using h1
    rw [List.getElem_set, List.getElem_map, idxL_succ]
    have ej : D[j] = ks.getD i [] := by
      rw [← he, List.getD_eq_getElem?_getD, List.getElem?_eq_getElem hj]
      rfl
    by_cases hkj : j = k
    · subst hkj
      rw [if_pos rfl, if_pos ej.symm]
      congr 1
      rw [List.getD_eq_getElem?_getD, List.getElem?_map, List.getElem?_eq_getElem hj]
      rfl
    · rw [if_neg hkj, if_neg]
      · rw [List.getElem_map]
      · intro e
        rw [← ej] at e
        rcases Nat.lt_trichotomy j k with h | h | h
        · exact List.pairwise_iff_getElem.1 hn j k hj hk h e
        · exact hkj h
        · exact List.pairwise_iff_getElem.1 hn k j hk hj h e.symm
theorem orb_new {ks : List (List Int)} {i : Nat} (h : ks.getD i [] ∉ dk ks i) : (dk ks (i + 1)).map (idxL ks i) = (dk ks i).map (idxL ks i) ++ [[]] := by
  rw [show dk ks (i + 1) = dk ks i ++ [ks.getD i []] from if_neg h, List.map_append, List.map_singleton, idxL_none h]

/-- the numbers of the keys, as the map holds them -/
def nmapF : Nat → List (List Int) → List (List Int × Value)
  | _, [] => []
  | i, p :: r => (pad6 p, Value.int .i64 i) :: nmapF (i + 1) r
def nmap (D : List (List Int)) : List (List Int × Value) := nmapF 0 D
theorem nmapF_app : ∀ (i : Nat) (D : List (List Int)) (p : List Int), nmapF i (D ++ [p]) = nmapF i D ++ [(pad6 p, Value.int .i64 (i + D.length : Nat))]
  | i, [], p => rfl
  | i, q :: D, p => by
    simp only [List.cons_append, nmapF, nmapF_app (i + 1) D p, List.length_cons]
    rw [Nat.add_assoc, Nat.add_comm 1]
theorem nmapF_keys : ∀ (i : Nat) (D : List (List Int)), (nmapF i D).map (·.1) = D.map pad6
  | _, [] => rfl
  | i, p :: D => by simp [nmapF, nmapF_keys (i + 1) D]
theorem nmapF_find {n : Nat} : ∀ (i : Nat) (D : List (List Int)) (p : List Int), (∀ x ∈ D, x.length = n) → p.length = n → p ∈ D → ∃ j, j < D.length ∧ D.getD j [] = p ∧ findE (pad6 p) i (nmapF i D) = some (i + j, Value.int .i64 (i + j : Nat))
  | _, [], _, _, _, h => by simp at h
  | i, q :: D, p, hl, hp, h => by
    by_cases e : p = q
    · subst e
      exact ⟨0, by simp, rfl, by simp [nmapF, findE]⟩
    · have hm : p ∈ D := by
        rcases List.mem_cons.1 h with h | h
        · exact absurd h e
        · exact h
      obtain ⟨j, h1, h2, h3⟩ := nmapF_find (i + 1) D p (fun x hx => hl x (by simp [hx])) hp hm
      refine ⟨j + 1, by simp; omega, by simpa using h2, ?_⟩
      have hne : pad6 p ≠ pad6 q := fun e' => e (pad6_inj (by rw [hp, hl q (by simp)]) e')
      simp only [nmapF, findE]
      rw [if_neg hne, h3, show i + 1 + j = i + (j + 1) from by omega]
theorem nmap_old {n : Nat} {D : List (List Int)} {p : List Int} (hl : ∀ x ∈ D, x.length = n) (hp : p.length = n) (h : p ∈ D) : ∃ j, j < D.length ∧ D.getD j [] = p ∧ lookD (.int .i64 0) (nmap D) (pad6 p) = .int .i64 j ∧ hasK (nmap D) (pad6 p) = true := by
  obtain ⟨j, h1, h2, h3⟩ := nmapF_find 0 D p hl hp h
  refine ⟨j, h1, h2, ?_, ?_⟩
  · unfold lookD nmap
    rw [h3]
    simp
  · unfold hasK nmap
    rw [h3]
    rfl
theorem nmap_new {n : Nat} {D : List (List Int)} {p : List Int} (hl : ∀ x ∈ D, x.length = n) (hp : p.length = n) (h : p ∉ D) : hasK (nmap D) (pad6 p) = false ∧ lookD (.int .i64 0) (nmap D) (pad6 p) = .int .i64 0 ∧ putM (nmap D) (pad6 p) (.int .i64 D.length) = nmap (D ++ [p]) := by
  have : findE (pad6 p) 0 (nmap D) = none := by
    rw [findE_none, nmap, nmapF_keys, mem_pad hl hp]
    exact h
  refine ⟨?_, ?_, ?_⟩
  · unfold hasK
    rw [this]
    rfl
  · unfold lookD
    rw [this]
    rfl
  · unfold putM
    rw [this]
    show nmap D ++ _ = nmap (D ++ [p])
    unfold nmap
    rw [nmapF_app, Nat.zero_add]

end Go.Proofs.Ytegmbdkdgpeahaa
