/- The contract of the program's IsGroup. -/
import Derived.Test.YtegmbdkdgpeahaaIsg
namespace Go.Proofs.Ytegmbdkdgpeahaa
open Go Go.RowKit

theorem map_heap {w : World} {r : Nat} {m : List (List Int × Value)} (h : MapIs w r m) : ∃ es ck, w.heap[r]? = some (.map es ck) ∧ es.size = m.length := by
  have h1 := mapLen_of h
  unfold mapLen at h1
  have h2 := h.1
  exact ⟨_, _, h2, by rw [h2] at h1; exact h1⟩

/-- what the loop knows: the generators come from the list, and what they generate holds the list's first k -/
structure GI (l gs L : List (List Int)) (k : Nat) : Prop where
  sub : ∀ g ∈ gs, g ∈ l
  nodup : L.Nodup
  reach : ∀ p, p ∈ L ↔ Reach gs (l.getD 0 []).length p
  part : ∀ i, i < k → l.getD i [] ∈ L
  few : L.length ≤ l.length

theorem reach_mono {gs hs : List (List Int)} {n : Nat} {p : List Int} (h : ∀ g ∈ gs, g ∈ hs) : Reach gs n p → Reach hs n p
  | ⟨ws, h1, h2⟩ => ⟨ws, fun g hg => h g (h1 g hg), h2⟩
theorem reach_comp {gs : List (List Int)} {n : Nat} (hn : n ≤ 6) (hp : PermsN gs n) {p q : List Int} (h1 : Reach gs n p) (h2 : Reach gs n q) : Reach gs n (comp p q) := by
  obtain ⟨ws, hw, rfl⟩ := h1
  induction ws with
  | nil =>
    have e := reach_perm hn hp h2
    have : comp (idn n) q = q := by
      unfold comp
      conv => rhs; rw [← List.map_id q]
      apply List.map_congr_left
      intro x hx
      have := (perm_spec e.1).2.1 x hx
      rw [idn_getD (by omega)]
      simp
      omega
    rw [List.foldr_nil, this]
    exact h2
  | cons g ws ih =>
    have hq := reach_perm hn hp h2
    have hr := reach_perm hn hp ⟨ws, fun x hx => hw x (by simp [hx]), rfl⟩
    rw [List.foldr_cons, comp_assoc (by intro y hy; have := (perm_spec hq.1).2.1 y hy; rw [hr.2]; rw [hq.2] at this; exact this)]
    exact reach_step (hw g (by simp)) (ih (fun x hx => hw x (by simp [hx])))

theorem GI.too {l gs L : List (List Int)} (hg : isG l) (hs : ∀ g ∈ gs, g ∈ l) (hn : L.Nodup) (hr : ∀ p, p ∈ L ↔ Reach gs (l.getD 0 []).length p) : L.length ≤ l.length :=
  nodup_le L l hn (fun p hp => hg.closed p (reach_mono hs ((hr p).1 hp)))
theorem GI.fin {l gs L : List (List Int)} {k : Nat} (h : GI l gs L k) (hk : l.length ≤ k) (h0 : 0 < l.length) (hp : PermsN l (l.getD 0 []).length) (hs : sortS l) : isG l ↔ L.length = l.length := by
  have h6 : (l.getD 0 []).length ≤ 6 := (perm_spec (hp _ (getD_mem h0)).1).1
  have hpg : PermsN gs (l.getD 0 []).length := fun g hg => hp g (h.sub g hg)
  have hin : ∀ p ∈ l, p ∈ L := by
    intro p hp
    obtain ⟨i, hi, rfl⟩ := mem_getD hp
    exact h.part i (by omega)
  constructor
  · intro _
    have := nodup_le l L hs.nodup hin
    have := h.few
    omega
  · intro he
    refine ⟨h0, hp, hs, ?_⟩
    have hback : ∀ p ∈ L, p ∈ l := by
      intro p hpL
      refine Classical.byContradiction fun hno => ?_
      have := nodup_le (p :: l) L (List.nodup_cons.2 ⟨hno, hs.nodup⟩) (fun x hx => by
        rcases List.mem_cons.1 hx with rfl | hx
        · exact hpL
        · exact hin x hx)
      simp at this
      omega
    rintro p ⟨ws, hw, rfl⟩
    apply hback
    rw [h.reach]
    induction ws with
    | nil => exact reach_id gs _
    | cons g ws ih => exact reach_comp h6 hpg ((h.reach g).1 (hin g (hw g (by simp)))) (ih (fun x hx => hw x (by simp [hx])))

end Go.Proofs.Ytegmbdkdgpeahaa
