/- The contract of the reference's Closure: the group in strict order. -/
import Derived.Test.YtegmbdkdgpeahaaPlace
namespace Go.Proofs.Ytegmbdkdgpeahaa
open Go Go.RowKit

theorem ClInv.perm {gs : List (List Int)} {n : Nat} {L q L' q' : List (List Int)} (h : ClInv gs n L q) (hL : L'.Perm L) (hq : q'.Perm q) : ClInv gs n L' q' :=
  ⟨hL.nodup_iff.2 h.nodup, fun p hp => h.reach p (hL.mem_iff.1 hp), hL.mem_iff.2 h.one, fun p hp => hL.mem_iff.2 (h.sub p (hq.mem_iff.1 hp)),
   fun p hp hn g hg => hL.mem_iff.2 (h.closed p (hL.mem_iff.1 hp) (fun x => hn (hq.mem_iff.2 x)) g hg), by rw [hL.length_eq, hq.length_eq]; exact h.short⟩
theorem ClIn.perm {gs : List (List Int)} {n : Nat} {L q L' : List (List Int)} {a : List Int} {j : Nat} (h : ClIn gs n L q a j) (hL : L'.Perm L) : ClIn gs n L' q a j :=
  ⟨hL.nodup_iff.2 h.nodup, fun p hp => h.reach p (hL.mem_iff.1 hp), hL.mem_iff.2 h.one, fun p hp => hL.mem_iff.2 (h.sub p hp), hL.mem_iff.2 h.mem,
   fun p hp hn hne g hg => hL.mem_iff.2 (h.closed p (hL.mem_iff.1 hp) hn hne g hg), fun g hg => hL.mem_iff.2 (h.part g hg), by rw [hL.length_eq]; exact h.short⟩

/-- b put at place k -/
def insL (L : List (List Int)) (k : Nat) (b : List Int) : List (List Int) := L.take k ++ [b] ++ L.drop k
theorem insL_perm (L : List (List Int)) (k : Nat) (b : List Int) : (insL L k b).Perm (L ++ [b]) := by
  unfold insL
  rw [List.append_assoc]
  refine (List.Perm.append_left (L.take k) List.perm_append_comm).trans ?_
  rw [← List.append_assoc, List.take_append_drop]
theorem insL_len (L : List (List Int)) (k : Nat) (b : List Int) : (insL L k b).length = L.length + 1 := by
  have := (insL_perm L k b).length_eq
  simpa using this
theorem insL_at {L : List (List Int)} {k : Nat} (hk : k ≤ L.length) (b : List Int) (i : Nat) : (insL L k b).getD i [] = if i < k then L.getD i [] else if i = k then b else L.getD (i - 1) [] := by
  unfold insL
  simp only [List.getD_eq_getElem?_getD]
  by_cases h1 : i < k
  · rw [if_pos h1, List.append_assoc, List.getElem?_append_left (by simp; omega), List.getElem?_take_of_lt h1]
  · rw [if_neg h1, List.append_assoc, List.getElem?_append_right (by simp; omega)]
    have hl : (L.take k).length = k := by simp; omega
    rw [hl]
    by_cases h2 : i = k
    · rw [if_pos h2]
      subst h2
      simp
    · rw [if_neg h2, List.getElem?_append_right (by simp; omega), List.getElem?_drop]
      congr 2
      simp
      omega
theorem insL_sort {L : List (List Int)} {k : Nat} {b : List Int} (hk : k ≤ L.length) (hs : sortS L) (h : plI L b k k) (hb : b ∉ L) : sortS (insL L k b) := by
  have hgt : ∀ i, k ≤ i → i < L.length → cmpL b (L.getD i []) < 0 := by
    intro i h1 h2
    have h3 := h.2 i h1 h2
    have h4 := cmpL_anti (L.getD i []) b
    have h5 : cmpL (L.getD i []) b ≠ 0 := by
      intro e
      apply hb
      rw [← cmpL_eq e, List.getD_eq_getElem?_getD, List.getElem?_eq_getElem h2]
      exact List.getElem_mem h2
    omega
  intro i j hij hj
  rw [insL_len] at hj
  rw [insL_at hk, insL_at hk]
  by_cases h1 : i < k
  · rw [if_pos h1]
    by_cases h2 : j < k
    · rw [if_pos h2]
      exact hs i j hij (by omega)
    · rw [if_neg h2]
      by_cases h3 : j = k
      · rw [if_pos h3]
        exact h.1 i h1
      · rw [if_neg h3]
        exact hs i (j - 1) (by omega) (by omega)
  · rw [if_neg h1, if_neg (by omega : ¬ j < k), if_neg (by omega : ¬ j = k)]
    by_cases h3 : i = k
    · rw [if_pos h3]
      exact hgt (j - 1) (by omega) (by omega)
    · rw [if_neg h3]
      exact hs (i - 1) (j - 1) (by omega) (by omega)

theorem Own.upto {w : World} {base : Nat} {e : TypeId} {a : Option Addr} {n c : Nat} {cs : List Value} (h : Own w base e a n c cs) {k : Nat} (hk : k ≤ n) (h0 : 0 < n) : Own w base e a k c (cs.take k) := by
  refine ⟨by have := h.len; simp; omega, ?_⟩
  rcases h.2 with ⟨hv, h1⟩ | ⟨g, cap, cur, hv, h1, h2, h3, h4, h5, h6⟩
  · omega
  · simp only [Value.slice.injEq] at hv
    obtain ⟨rfl, _, rfl⟩ := hv
    refine Or.inr ⟨g, c, cur, rfl, h1, h2, by omega, h4, h5, ?_⟩
    rw [← h6]
    simp only [Nat.mul_one]
    rw [List.take_take, Nat.min_eq_left hk]

/-- a prefix of a slice of one's own -/
theorem wl_cutTo {P : Program} {w : World} {ops : Array Oper} {rest : List Oper} {o : Oper} {f : Act} {Q : Exit → Act → World → Prop} {t : TypeId} {x y : Operand} (hgd : o.guard = none) (ho : o.op = .slice t x none (some y) none)
    {e : TypeId} {z : Value} {bytes base : Nat} {a : Option Addr} {n c k : Nat} {cs : List Value}
    (ht : P.underlying t = some (.slice e)) (hinfo : Elem1 P e z bytes) (hx : f.eval x = .slice a n c) (hy : f.eval y = .int .i64 k) (hO : Own w base e a n c cs) (hk : k ≤ n) (h0 : 0 < n)
    (hK : Own w base e a k c (cs.take k) → wpList P ops Q rest (f.put o.dst (.slice a k c)) w) : wpList P ops Q (o :: rest) f w := by
  refine wpList_plain hgd fun K hK' => ?_
  unfold Oper.wp execOp
  simp only [ho, hx, hy, Option.map_some, Option.map_none, Sem.run_bind, run_slice_to ht hinfo (Nat.le_trans hk hO.cap), Result.andThen_ok, Sem.run_pure, Oper.upon]
  exact hK' _ _ (hK (hO.upto hk h0))

theorem QEl.upto {w : World} {base : Nat} {qc : List Value} {q : List (List Int)} (h : QEl w base qc q) (k : Nat) : QEl w base (qc.take k) (q.take k) := by
  intro i hi
  have hik : i < k := by simp at hi; omega
  obtain ⟨a, n, c, h1, h2⟩ := h i (by simp at hi; omega)
  refine ⟨a, n, c, ?_, ?_⟩
  · rw [← h1]
    simp [List.getD_eq_getElem?_getD, List.getElem?_take_of_lt hik]
  · simpa [List.getD_eq_getElem?_getD, List.getElem?_take_of_lt hik] using h2
theorem QEl.ins {w : World} {base : Nat} {qc : List Value} {q : List (List Int)} {a : Option Addr} {n c k : Nat} {p : List Int} (h : QEl w base qc q) (hl : qc.length = q.length) (hk : k ≤ q.length) (hp : OwnI w base a n c p) :
    QEl w base (qc.take k ++ [.slice a n c] ++ qc.drop k) (insL q k p) := by
  intro i hi
  rw [insL_len] at hi
  rw [insL_at hk]
  have e : (qc.take k ++ [Value.slice a n c] ++ qc.drop k).getD i undef = if i < k then qc.getD i undef else if i = k then .slice a n c else qc.getD (i - 1) undef := by
    simp only [List.getD_eq_getElem?_getD]
    by_cases h1 : i < k
    · rw [if_pos h1, List.append_assoc, List.getElem?_append_left (by simp; omega), List.getElem?_take_of_lt h1]
    · rw [if_neg h1, List.append_assoc, List.getElem?_append_right (by simp; omega)]
      have hl2 : (qc.take k).length = k := by simp; omega
      rw [hl2]
      by_cases h2 : i = k
      · rw [if_pos h2]
        subst h2
        simp
      · rw [if_neg h2, List.getElem?_append_right (by simp; omega), List.getElem?_drop]
        congr 2
        simp
        omega
  rw [e]
  by_cases h1 : i < k
  · rw [if_pos h1, if_pos h1]
    exact h i (by omega)
  · rw [if_neg h1, if_neg h1]
    by_cases h2 : i = k
    · rw [if_pos h2, if_pos h2]
      exact ⟨a, n, c, rfl, hp⟩
    · rw [if_neg h2, if_neg h2]
      exact h (i - 1) (by omega)
theorem slices_one {w : World} {base : Nat} {qc : List Value} {q : List (List Int)} (h : QEl w base qc q) (hl : qc.length = q.length) : ∀ u ∈ qc, u.oneCell' = true := by
  intro u hu
  obtain ⟨i, hi, rfl⟩ := List.mem_iff_getElem.1 hu
  obtain ⟨a, n, c, h1, _⟩ := h i (by omega)
  rw [List.getD_eq_getElem?_getD, List.getElem?_eq_getElem hi, Option.getD_some] at h1
  rw [h1]
  rfl

end Go.Proofs.Ytegmbdkdgpeahaa
