/- A slice of the call's own that is cut at its head and appended to at its end. Over any program. -/
import Derived.Test.YtegmbdkdgpeahaaLaws2
import Derived.Deep.AppendSrc
namespace Go.Proofs.Ytegmbdkdgpeahaa
open Go Go.RowKit

/-- The call's own slice (a, n, c), which may begin in the middle of its block, holds the cells cs. -/
def OwnO (w : World) (base : Nat) (e : TypeId) (a : Option Addr) (n c : Nat) (cs : List Value) : Prop :=
  cs.length = n ∧ n ≤ c ∧ c ≤ maxLen ∧ ((a = none ∧ c = 0) ∨ ∃ g off cur, a = some ⟨g, off, none⟩ ∧ base ≤ g ∧ w.heap[g]? = some (.cells cur e (0, 0)) ∧ off + c ≤ cur.size ∧ (cur.toList.drop off).take n = cs)

section
variable {w w' : World} {base : Nat} {e : TypeId} {a : Option Addr} {n c : Nat} {cs : List Value}

theorem OwnO.of (h : Own w base e a n c cs) : OwnO w base e a n c cs := by
  refine ⟨h.len, h.cap, h.sl.max, ?_⟩
  rcases h.2 with ⟨hv, _⟩ | ⟨g, cap, cur, hv, hb, hh, hnc, hm, hs, ht⟩
  · simp only [Value.slice.injEq] at hv
    exact Or.inl ⟨hv.1, hv.2.2⟩
  · simp only [Value.slice.injEq] at hv
    obtain ⟨rfl, _, rfl⟩ := hv
    exact Or.inr ⟨g, 0, cur, rfl, hb, hh, by omega, by simpa using ht⟩
theorem OwnO.len (h : OwnO w base e a n c cs) : cs.length = n := h.1
theorem OwnO.sl (h : OwnO w base e a n c cs) : Sl w a n c cs := by
  obtain ⟨hl, hc, hm, h⟩ := h
  refine ⟨hl, hc, hm, fun h0 => ?_⟩
  rcases h with ⟨_, h1⟩ | ⟨g, off, cur, ha, _, hh, hs, ht⟩
  · omega
  · refine ⟨g, off, ha, fun i hi => ?_⟩
    have e1 : cs.getD i undef = cur.toList.getD (off + i) undef := by
      rw [← ht]
      simp [List.getD_eq_getElem?_getD, hi]
    have hi2 : off + i < cur.size := by omega
    rw [e1]
    simp [World.cell?, hh, List.getD_eq_getElem?_getD, hi2]
theorem OwnO.lt (h : OwnO w base e a n c cs) {k : Nat} (hk : blk a = some k) : base ≤ k ∧ k < w.heap.size := by
  rcases h.2.2.2 with ⟨ha, _⟩ | ⟨g, off, cur, ha, hb, hh, _⟩
  · subst ha; simp [blk] at hk
  · subst ha
    have : g = k := by simpa [blk] using hk
    subst this
    refine ⟨hb, ?_⟩
    rcases Nat.lt_or_ge g w.heap.size with h | h
    · exact h
    · simp [Array.getElem?_eq_none h] at hh
theorem OwnO.of_block (h : OwnO w base e a n c cs) (hb : ∀ k, blk a = some k → w'.heap[k]? = w.heap[k]?) : OwnO w' base e a n c cs := by
  obtain ⟨hl, hc, hm, h⟩ := h
  refine ⟨hl, hc, hm, ?_⟩
  rcases h with h | ⟨g, off, cur, ha, hbg, hh, r⟩
  · exact Or.inl h
  · exact Or.inr ⟨g, off, cur, ha, hbg, by rw [hb g (by subst ha; rfl)]; exact hh, r⟩
theorem OwnO.ext (h : OwnO w base e a n c cs) (k : Ext w w') : OwnO w' base e a n c cs := h.of_block fun _ hk => k.block (h.lt hk).2
theorem OwnO.kept {row : Option Nat} (h : OwnO w base e a n c cs) (hg : w.grownBy w' row) (hne : blk a = none ∨ blk a ≠ row) : OwnO w' base e a n c cs :=
  h.of_block fun k hk => hg.block k (h.lt hk).2 (by
    rcases hne with h1 | h1
    · rw [h1] at hk; cases hk
    · rw [← hk]; exact h1)
theorem OwnO.from (h : OwnO w base e a n c cs) {k : Nat} (hk : k ≤ n) : OwnO w base e (if c = k then a else a.map (fun x => x.add k)) (n - k) (c - k) (cs.drop k) := by
  obtain ⟨hl, hc, hm, h⟩ := h
  refine ⟨by simp; omega, by omega, by omega, ?_⟩
  rcases h with ⟨ha, h0⟩ | ⟨g, off, cur, ha, hbg, hh, hs, ht⟩
  · subst ha
    left
    refine ⟨by simp, by omega⟩
  · subst ha
    right
    by_cases hck : c = k
    · rw [if_pos hck]
      refine ⟨g, off, cur, rfl, hbg, hh, by omega, ?_⟩
      rw [show n - k = 0 by omega, List.take_zero, List.drop_of_length_le (show cs.length ≤ k by omega)]
    · rw [if_neg hck]
      refine ⟨g, off + k, cur, ?_, hbg, hh, by omega, ?_⟩
      · simp only [Option.map_some, Addr.add]
        by_cases h0 : k = 0 <;> simp [h0]
      · rw [← ht, List.drop_take, List.drop_drop]
end

theorem splice_take {α : Type} (l news : List α) (o n m : Nat) (hn : news.length = m) (hlen : o + n + m ≤ l.length) :
    ((l.take (o + n) ++ news ++ l.drop (o + n + m)).drop o).take (n + m) = (l.drop o).take n ++ news := by
  apply List.ext_getElem?
  intro i
  by_cases h1 : i < n
  · rw [List.getElem?_take, if_pos (by omega), List.getElem?_drop, List.append_assoc, List.getElem?_append_left (by simp; omega), List.getElem?_take, if_pos (by omega),
      List.getElem?_append_left (by simp; omega), List.getElem?_take, if_pos h1, List.getElem?_drop]
  · by_cases h2 : i < n + m
    · rw [List.getElem?_take, if_pos h2, List.getElem?_drop, List.append_assoc, List.getElem?_append_right (by simp; omega), List.getElem?_append_left (by simp; omega),
        List.getElem?_append_right (by simp; omega)]
      congr 1
      simp
      omega
    · rw [List.getElem?_eq_none (by simp; omega), List.getElem?_eq_none (by simp; omega)]

section
variable {P : Program} {w : World}

theorem run_appO {t ty e : TypeId} {z : Value} {bytes base : Nat} {a : Option Addr} {n c : Nat} {xs : List Value} {A : Option Addr} {m cx : Nat} {news : List Value}
    (ht : P.underlying t = some (.slice e)) (hinfo : Elem1 P e z bytes) (hz1 : z.cells.size = 1) (hown : OwnO w base e a n c xs) (hsl : Sl w A m cx news)
    (h1 : ∀ u ∈ news, u.oneCell' = true) (h63 : n + m ≤ maxLen) (hbytes : (n + m) * bytes ≤ 140737488355328) (hbase : base ≤ w.heap.size) (hm0 : 0 < m) :
    ∃ a' c' w', (Builtin.append_ #[t, t] ty #[.slice a n c, .slice A m cx]).run P w = .ok (.slice a' (n + m) c') w' ∧ OwnO w' base e a' (n + m) c' (xs ++ news) ∧
      w.grownBy w' (blk a) ∧ (blk a' = blk a ∨ blk a' = some w.heap.size) := by
  obtain ⟨i, hi, hz, hsize, hby⟩ := info_parts hinfo
  obtain ⟨hl, hnc, hmx, hcase⟩ := hown
  obtain ⟨b, off, hA, hc⟩ := hsl.rd hm0
  subst hA
  have hcells : ∀ j u, news[j]? = some u → w.cell? ((⟨b, off, none⟩ : Addr).add j) = some u := by
    intro j u hu
    have hj : j < news.length := by
      rcases Nat.lt_or_ge j news.length with h | h
      · exact h
      · simp [List.getElem?_eq_none h] at hu
    have h2 := hc j (by have := hsl.len; omega)
    have h3 : news.getD j undef = u := by rw [List.getD_eq_getElem?_getD, hu]; rfl
    rw [h3] at h2
    rw [← h2]
    unfold Addr.add
    by_cases h0 : j = 0 <;> simp [h0]
  have hnl : news.length = m := hsl.len
  have hf := run_firstCells_some (P := P) w i.size m ⟨b, off, none⟩ m cx news (by rw [hsize]; omega) hcells
  by_cases hroom : n + m ≤ c
  · rcases hcase with ⟨_, h0⟩ | ⟨g, o, cur, ha, hb, hh, hs, htk⟩
    · omega
    · subst ha
      have hst := run_storeCells_at P g (o + n) e news 0 cur w hh (by omega) h1
      refine ⟨some ⟨g, o, none⟩, c, _, ?_, ⟨by simp [hl, hnl], hroom, hmx, Or.inr ⟨g, o, (cur.toList.take (o + n) ++ news ++ cur.toList.drop (o + n + m)).toArray, rfl, hb, ?_, ?_, ?_⟩⟩, setRow_grown w g (cur.toList.take (o + n) ++ news ++ cur.toList.drop (o + n + m)).toArray, Or.inl rfl⟩
      · have hadd : (⟨g, o, none⟩ : Addr).add (n * i.size) = ⟨g, o + n, none⟩ := by
          rw [hsize, Nat.mul_one]
          unfold Addr.add
          by_cases h0 : n = 0 <;> simp [h0]
        simp only [Nat.add_zero, hnl] at hst
        simp [Builtin.append_, run_underlying ht, sizeOf, typeInfo, hi, Builtin.lenOf, hroom, hf, hadd, hst]
      · simp [World.setRow, Array.getElem?_modify, hh]
      · simp; omega
      · rw [List.toList_toArray, splice_take _ _ o n m hnl (by simp; omega), htk]
  · have hold : (Builtin.firstCells i.size n (.slice a n c)).run P w.drew = .ok xs.toArray w.drew := by
      rcases hcase with ⟨ha, h0⟩ | ⟨g, o, cur, ha, hb, hh, hs, htk⟩
      · subst ha
        have : xs = [] := List.eq_nil_of_length_eq_zero (by omega)
        subst this
        simp [Builtin.firstCells]
      · subst ha
        refine run_firstCells_some (P := P) w.drew i.size n ⟨g, o, none⟩ n c xs (by rw [hsize]; omega) ?_
        intro j u hu
        have hj : j < xs.length := by
          rcases Nat.lt_or_ge j xs.length with h | h
          · exact h
          · simp [List.getElem?_eq_none h] at hu
        have hadd : (⟨g, o, none⟩ : Addr).add j = ⟨g, o + j, none⟩ := by
          unfold Addr.add
          by_cases h0 : j = 0 <;> simp [h0]
        rw [← htk] at hu
        rw [List.getElem?_take, if_pos (by omega), List.getElem?_drop] at hu
        rw [hadd]
        rw [Array.getElem?_toList] at hu
        show World.cell? w ⟨g, o + j, none⟩ = some u
        simp only [World.cell?, hh]
        exact hu
    have hsrc : Src P i.size t (.slice (some ⟨b, off, none⟩) m cx) m news w := Src.ofSlice w ht ⟨b, off, none⟩ m cx news (by rw [hsize]; omega) hcells h1
    have hfit := growslice_fits (need := n + m) (old := c) (bytes := bytes) (by omega) hbytes
    have hrun := run_append_grow_src (P := P) w t t ty e i z ht hi hz a n c xs hold (.slice (some ⟨b, off, none⟩) m cx) m news hsrc (by omega) (by unfold maxLen at h63; omega) (by rw [hby]; exact hfit)
    refine ⟨_, _, _, hrun, ⟨by simp [hl, hnl], grownCap_ge w _ _ _, grownCap_le_maxLen w _ _ _ h63, Or.inr ⟨w.heap.size, 0, (xs ++ news).toArray ++ Builtin.zeroCells z.cells (grownCap w (n + m) c e - (n + m)), rfl, hbase, ?_, ?_, ?_⟩⟩, ?_, Or.inr rfl⟩
    · exact heap_alloc_new w.drew _
    · have := grownCap_ge w (n + m) c e
      simp [size_zeroCells, hz1, hl, hnl]
      omega
    · simp only [List.drop_zero, Array.toList_append]
      rw [List.take_append_of_le_length (by simp [hl, hnl]), List.take_of_length_le (by simp [hl, hnl])]
    · refine ⟨rfl, rfl, rfl, by simp, fun k hk _ => ?_⟩
      exact Below.heap_alloc w.drew _ k hk

/-- append, at an operation of a plain region -/
theorem wl_appO {ops : Array Oper} {rest : List Oper} {o : Oper} {f : Act} {Q : Exit → Act → World → Prop} {s x : Operand} {t : TypeId} (hgd : o.guard = none)
    (ho : o.op = .call { callee := .builtin .append, args := #[s, x], argTypes := #[t, t] })
    {e : TypeId} {z : Value} {bytes base : Nat} {a : Option Addr} {n c : Nat} {xs : List Value} {A : Option Addr} {m cx : Nat} {news : List Value}
    (ht : P.underlying t = some (.slice e)) (hinfo : Elem1 P e z bytes) (hz1 : z.cells.size = 1) (hs : f.eval s = .slice a n c) (hown : OwnO w base e a n c xs) (hx : f.eval x = .slice A m cx) (hsl : Sl w A m cx news)
    (h1 : ∀ u ∈ news, u.oneCell' = true) (h63 : n + m ≤ maxLen) (hbytes : (n + m) * bytes ≤ 140737488355328) (hbase : base ≤ w.heap.size) (hm0 : 0 < m)
    (h : ∀ a' c' w', OwnO w' base e a' (n + m) c' (xs ++ news) → w.grownBy w' (blk a) → (blk a' = blk a ∨ blk a' = some w.heap.size) → wpList P ops Q rest (f.put o.dst (.slice a' (n + m) c')) w') :
    wpList P ops Q (o :: rest) f w := by
  refine wpList_plain hgd fun K hK => ?_
  obtain ⟨a', c', w', hrun, h2, h3, h4⟩ := run_appO (P := P) (ty := o.type) ht hinfo hz1 hown hsl h1 h63 hbytes hbase hm0
  unfold Oper.wp execOp
  simp only [ho, resolve, invoke, builtin, Sem.run_bind, Sem.run_pure, Result.andThen_ok, List.map_toArray, List.map_cons, List.map_nil, hs, hx, hrun]
  exact hK _ _ (h a' c' w' h2 h3 h4)
end

end Go.Proofs.Ytegmbdkdgpeahaa
