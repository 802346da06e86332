/- Laws of make, append and slicing in the words of the base text: over any program. -/
import Derived.Test.YtegmbdkdgpeahaaBase
import Derived.Maps.AppendAt
import Derived.Deep.AppendLies
import Derived.RegionTactic
import Derived.OwnWalk
namespace Go.Proofs.Ytegmbdkdgpeahaa
open Go Go.RowKit

/-- The call's own slice (a, n, c) of one-cell elements of type e holds the cells cs; its block is from base on. -/
def Own (w : World) (base : Nat) (e : TypeId) (a : Option Addr) (n c : Nat) (cs : List Value) : Prop := w.ownsRow base e 1 (.slice a n c) n cs

/-- One closed fact about an element type: its zero value, one cell, its bytes. -/
def Elem1 (P : Program) (e : TypeId) (z : Value) (bytes : Nat) : Prop :=
  (P.info? e).map (fun i => (i.zero, i.size, i.bytes)) = some (some z, 1, bytes)

def blk (a : Option Addr) : Option Nat := a.map (·.block)

section
variable {w w' : World} {base : Nat} {e : TypeId} {a : Option Addr} {n c : Nat} {cs : List Value}

theorem Own.sl (h : Own w base e a n c cs) : Sl w a n c cs := Sl.of_owns h
theorem Own.ext (h : Own w base e a n c cs) (k : Ext w w') : Own w' base e a n c cs := owns_ext h k
theorem Own.len (h : Own w base e a n c cs) : cs.length = n := h.sl.len
theorem Own.cap (h : Own w base e a n c cs) : n ≤ c := h.sl.cap
theorem Own.nil (w : World) (base : Nat) (e : TypeId) : Own w base e none 0 0 [] := World.ownsRow_nil w base e 1
theorem Own.lt (h : Own w base e a n c cs) {k : Nat} (hk : blk a = some k) : base ≤ k ∧ k < w.heap.size := by
  refine World.ownsRow.lt h k ?_
  cases a with
  | none => simp [blk] at hk
  | some b => simpa [blk, Value.ownBlock] using hk
theorem Own.mono {base' : Nat} (h : Own w base e a n c cs) (hb : base' ≤ base) : Own w base' e a n c cs := by
  obtain ⟨h1, h2⟩ := h
  refine ⟨h1, ?_⟩
  rcases h2 with h2 | ⟨g, cap, cur, hv, hg, r⟩
  · exact Or.inl h2
  · exact Or.inr ⟨g, cap, cur, hv, by omega, r⟩
/-- kept where another block was written -/
theorem Own.kept {row : Option Nat} (h : Own w base e a n c cs) (hg : w.grownBy w' row) (hne : blk a = none ∨ blk a ≠ row) : Own w' base e a n c cs := by
  refine World.ownsRow.kept h hg ?_
  cases a with
  | none => left; rfl
  | some b => right; rcases hne with h | h
              · simp [blk] at h
              · simpa [blk, Value.ownBlock] using h
theorem Own.drewN (h : Own w base e a n c cs) (k : Nat) : Own (w.drewN k) base e a n c cs := h
theorem Own.alloc (h : Own w base e a n c cs) (o : Obj) : Own (w.alloc o) base e a n c cs := World.ownsRow.alloc h o
/-- where it is not nil: its block, and the cells -/
theorem Own.place (h : Own w base e a n c cs) (hn : 0 < n) : ∃ g, a = some ⟨g, 0, none⟩ ∧ base ≤ g ∧ g < w.heap.size := by
  rcases h.2 with ⟨_, h0⟩ | ⟨g, cap, cur, hv, hg, hh, _⟩
  · omega
  · simp only [Value.slice.injEq] at hv
    refine ⟨g, hv.1, hg, ?_⟩
    rcases Nat.lt_or_ge g w.heap.size with h | h
    · exact h
    · simp [Array.getElem?_eq_none h] at hh
end

section
variable {w : World} {base : Nat} {e : TypeId} {g n c : Nat} {cs : List Value}
theorem Own.cellAt (h : Own w base e (some ⟨g, 0, none⟩) n c cs) {j : Nat} (hj : j < n) : w.cell? ⟨g, j, none⟩ = some (cs.getD j undef) := by
  have h1 := World.ownsRow.cellAt h j (by omega)
  have h2 : j < cs.length := by have := h.len; omega
  rw [h1]
  simp [List.getD_eq_getElem?_getD, h2]
theorem Own.frozenAt (h : Own w base e (some ⟨g, 0, none⟩) n c cs) (j : Nat) : w.frozen? ⟨g, j, none⟩ = false := World.ownsRow.frozenAt h j
theorem Own.stored (h : Own w base e (some ⟨g, 0, none⟩) n c cs) (j : Nat) (u : Value) :
    Own (w.setCell ⟨g, j, none⟩ u) base e (some ⟨g, 0, none⟩) n c (cs.set j u) := (World.ownsRow.stored h j u).1
end

theorem own_alloc (w : World) (base : Nat) (e : TypeId) (cs : Array Value) (n : Nat) (hn : cs.size = n) (hb : base ≤ w.heap.size) (hm : n ≤ 1000000) :
    Own (w.alloc (.cells cs e)) base e (some ⟨w.heap.size, 0, none⟩) n n cs.toList := by
  subst hn
  exact World.ownsRow_lit w cs cs.size hb (by unfold maxLen; omega) (by omega)
theorem Own.drew {w : World} {base : Nat} {e : TypeId} {a : Option Addr} {n c : Nat} {cs : List Value} (h : Own w base e a n c cs) : Own w.drew base e a n c cs := h
theorem Sl.drew {w : World} {a : Option Addr} {n c : Nat} {cs : List Value} (h : Sl w a n c cs) : Sl w.drew a n c cs := h.ext (Ext.refl w).drew
theorem Sl.alloc {w : World} {a : Option Addr} {n c : Nat} {cs : List Value} (h : Sl w a n c cs) (o : Obj) : Sl (w.alloc o) a n c cs := h.ext ((Ext.refl w).alloc o)

/-- two rows of different capacities lie in different blocks -/
theorem own_ne {w : World} {b b' : Nat} {e e' : TypeId} {g g' n n' c c' : Nat} {cs cs' : List Value} (h : Own w b e (some ⟨g, 0, none⟩) n c cs) (h' : Own w b' e' (some ⟨g', 0, none⟩) n' c' cs') (hc : c ≠ c') : g ≠ g' := by
  rintro rfl
  rcases h.2 with ⟨hv, _⟩ | ⟨g1, cap1, cur1, hv, _, hh, _, _, hs, _⟩
  · simp at hv
  rcases h'.2 with ⟨hv', _⟩ | ⟨g2, cap2, cur2, hv', _, hh', _, _, hs', _⟩
  · simp at hv'
  simp only [Value.slice.injEq, Option.some.injEq, Addr.mk.injEq, and_true, true_and] at hv hv'
  obtain ⟨rfl, rfl⟩ := hv
  obtain ⟨rfl, rfl⟩ := hv'
  rw [hh] at hh'
  simp only [Option.some.injEq, Obj.cells.injEq] at hh'
  obtain ⟨rfl, _⟩ := hh'
  omega

/-- s[:k] -/
theorem Sl.upto {w : World} {a : Option Addr} {n c : Nat} {cs : List Value} (h : Sl w a n c cs) {k : Nat} (hk : k ≤ n) : Sl w a k c (cs.take k) := by
  refine ⟨by have := h.len; simp; omega, by have := h.cap; omega, h.max, fun h0 => ?_⟩
  obtain ⟨b, off, ha, hc⟩ := h.rd (by omega)
  refine ⟨b, off, ha, fun i hi => ?_⟩
  rw [hc i (by omega)]
  simp [List.getD_eq_getElem?_getD, hi]
/-- s[k:] -/
theorem Sl.from {w : World} {a : Option Addr} {n c : Nat} {cs : List Value} (h : Sl w a n c cs) {k : Nat} (hk : k ≤ n) :
    Sl w (if c = k then a else a.map (fun x => x.add k)) (n - k) (c - k) (cs.drop k) := by
  refine ⟨by have := h.len; simp; omega, by have := h.cap; omega, by have := h.max; omega, fun h0 => ?_⟩
  obtain ⟨b, off, ha, hc⟩ := h.rd (by omega)
  subst ha
  have hcap := h.cap
  rw [if_neg (by omega)]
  refine ⟨b, off + k, ?_, fun i hi => ?_⟩
  · simp only [Option.map_some, Addr.add]
    by_cases h0 : k = 0 <;> simp [h0]
  · rw [Nat.add_assoc, hc (k + i) (by omega)]
    simp [List.getD_eq_getElem?_getD]

theorem grown_setCell (w : World) (g j : Nat) (u : Value) : w.grownBy (w.setCell ⟨g, j, none⟩ u) (some g) :=
  ⟨rfl, rfl, rfl, by simp [World.setCell], fun k _ hne => by
    simp only [World.setCell, Array.getElem?_modify]
    rw [if_neg (by rintro rfl; exact hne rfl)]⟩

/-- Block g is an array of its own: just the cells cs. -/
def Arr (w : World) (g : Nat) (t : TypeId) (cs : List Value) : Prop := w.heap[g]? = some (.cells cs.toArray t (0, 0))
section
variable {w w' : World} {g : Nat} {t : TypeId} {cs : List Value}
theorem Arr.lt (h : Arr w g t cs) : g < w.heap.size := by
  rcases Nat.lt_or_ge g w.heap.size with hlt | hge
  · exact hlt
  · unfold Arr at h; rw [Array.getElem?_eq_none hge] at h; cases h
theorem Arr.cell (h : Arr w g t cs) {i : Nat} (hi : i < cs.length) : w.cell? ⟨g, i, none⟩ = some (cs.getD i undef) := by
  unfold Arr at h
  simp [World.cell?, h, List.getD_eq_getElem?_getD, hi]
theorem Arr.frozen (h : Arr w g t cs) (i : Nat) : w.frozen? ⟨g, i, none⟩ = false := by
  unfold Arr at h
  simp [World.frozen?, h]
theorem Arr.new (w : World) (t : TypeId) (cs : List Value) : Arr (w.alloc (.cells cs.toArray t)) w.heap.size t cs := heap_alloc_new w _
theorem Arr.set (h : Arr w g t cs) (i : Nat) (u : Value) : Arr (w.setCell ⟨g, i, none⟩ u) g t (cs.set i u) := by
  unfold Arr at h ⊢
  simp [World.setCell, Array.getElem?_modify, h]
theorem Arr.sl (h : Arr w g t cs) {k : Nat} (hk : k ≤ cs.length) (hm : cs.length ≤ maxLen) : Sl w (some ⟨g, 0, none⟩) k cs.length (cs.take k) := by
  refine ⟨by simp; omega, hk, hm, fun _ => ⟨g, 0, rfl, fun i hi => ?_⟩⟩
  rw [Nat.zero_add, h.cell (by omega)]
  simp [List.getD_eq_getElem?_getD, hi]
theorem Arr.ext (h : Arr w g t cs) (k : Ext w w') : Arr w' g t cs := (k.block h.lt).trans h
theorem Arr.kept {row : Option Nat} (h : Arr w g t cs) (hb : w.grownBy w' row) (hg : some g ≠ row) : Arr w' g t cs := (hb.block g h.lt hg).trans h
theorem Arr.drewN (h : Arr w g t cs) (n : Nat) : Arr (w.drewN n) g t cs := h
theorem Arr.alloc (h : Arr w g t cs) (o : Obj) : Arr (w.alloc o) g t cs := (Below.heap_alloc w o g h.lt).trans h
theorem Arr.far (h : Arr w g t cs) {p : Addr} (hp : g ≠ p.block) (u : Value) : Arr (w.setCell p u) g t cs := (Below.heap_setCell w p u g hp).trans h
end

section
variable {P : Program} {w : World}

theorem run_app {t ty e : TypeId} {z : Value} {bytes base : Nat} {a : Option Addr} {n c : Nat} {xs : List Value} {A : Option Addr} {m cx : Nat} {news : List Value}
    (ht : P.underlying t = some (.slice e)) (hinfo : Elem1 P e z bytes) (hz1 : z.cells.size = 1) (hown : Own w base e a n c xs) (hsl : Sl w A m cx news)
    (h1 : ∀ u ∈ news, u.oneCell' = true) (h63 : n + m ≤ maxLen) (hbytes : (n + m) * bytes ≤ 140737488355328) (hbase : base ≤ w.heap.size) :
    ∃ a' c' w', (Builtin.append_ #[t, t] ty #[.slice a n c, .slice A m cx]).run P w = .ok (.slice a' (n + m) c') w' ∧ Own w' base e a' (n + m) c' (xs ++ news) ∧
      w.grownBy w' (blk a) ∧ (blk a' = blk a ∨ blk a' = some w.heap.size) := by
  obtain ⟨i, hi, hz, hsize, hby⟩ := info_parts hinfo
  have hob : (Value.slice a n c).ownBlock = blk a := by cases a <;> rfl
  rcases A with _ | ad
  · have hm : m = 0 := by
      rcases Nat.eq_zero_or_pos m with h0 | h0
      · exact h0
      · obtain ⟨b, o, h, _⟩ := hsl.rd h0
        cases h
    subst hm
    have hn : news = [] := List.eq_nil_of_length_eq_zero hsl.len
    subst hn
    refine ⟨a, c, w, ?_, by simpa using hown, World.grownBy.refl w _, .inl rfl⟩
    rcases hown.2 with ⟨hv, rfl⟩ | ⟨g, cap, cur, hv, _, _, hnc, _⟩
    · simp only [Value.slice.injEq] at hv
      obtain ⟨rfl, _, rfl⟩ := hv
      simp [Builtin.append_, run_underlying ht, sizeOf, typeInfo, hi, Builtin.lenOf, Builtin.firstCells]
    · simp only [Value.slice.injEq] at hv
      obtain ⟨rfl, _, rfl⟩ := hv
      simp [Builtin.append_, run_underlying ht, sizeOf, typeInfo, hi, Builtin.lenOf, Builtin.firstCells, hnc, storeCells]
  · have hcells : ∀ j u, news[j]? = some u → w.cell? (ad.add j) = some u := by
      intro j u hu
      have hj : j < news.length := by
        rcases Nat.lt_or_ge j news.length with h | h
        · exact h
        · simp [List.getElem?_eq_none h] at hu
      have hjm : j < m := by have := hsl.len; omega
      obtain ⟨b, o, h, hc⟩ := hsl.rd (by omega)
      injection h with h
      subst h
      have h2 := hc j hjm
      have h3 : news.getD j undef = u := by rw [List.getD_eq_getElem?_getD, hu]; rfl
      rw [h3] at h2
      rw [← h2]
      unfold Addr.add
      by_cases h0 : j = 0 <;> simp [h0]
    obtain ⟨v', w', hrun, h2, h3, _, h5⟩ := run_append_own_at (P := P) w base t ty e i z 1 bytes ht hi hz hsize hby hz1 (by omega) (.slice a n c) n xs hown ad m cx news (by have := hsl.len; omega) hcells h1 h63 hbytes hbase
    rcases h2.2 with ⟨hv, h0⟩ | ⟨g, cap, cur, hv, _⟩
    · subst hv
      refine ⟨none, 0, w', by rw [hrun, h0], ?_, by rw [← hob]; exact h3, by rw [← hob]; exact h5⟩
      unfold Own
      rw [h0] at h2 ⊢
      exact h2
    · subst hv
      exact ⟨_, cap, w', hrun, h2, by rw [← hob]; exact h3, by rw [← hob]; exact h5⟩

theorem wp_app {o : Oper} {f : Act} {K : Act → World → Prop} {Q : Exit → Act → World → Prop} {s x : Operand} {t : TypeId}
    (ho : o.op = .call { callee := .builtin .append, args := #[s, x], argTypes := #[t, t] })
    {e : TypeId} {z : Value} {bytes base : Nat} {a : Option Addr} {n c : Nat} {xs : List Value} {A : Option Addr} {m cx : Nat} {news : List Value}
    (ht : P.underlying t = some (.slice e)) (hinfo : Elem1 P e z bytes) (hz1 : z.cells.size = 1) (hs : f.eval s = .slice a n c) (hown : Own w base e a n c xs) (hx : f.eval x = .slice A m cx) (hsl : Sl w A m cx news)
    (h1 : ∀ u ∈ news, u.oneCell' = true) (h63 : n + m ≤ maxLen) (hbytes : (n + m) * bytes ≤ 140737488355328) (hbase : base ≤ w.heap.size)
    (h : ∀ a' c' w', Own w' base e a' (n + m) c' (xs ++ news) → w.grownBy w' (blk a) → (blk a' = blk a ∨ blk a' = some w.heap.size) → K (f.put o.dst (.slice a' (n + m) c')) w') : o.wp P f w K Q := by
  obtain ⟨a', c', w', hrun, h2, h3, h4⟩ := run_app (P := P) (ty := o.type) ht hinfo hz1 hown hsl h1 h63 hbytes hbase
  unfold Oper.wp execOp
  simp only [ho, resolve, invoke, builtin, Sem.run_bind, Sem.run_pure, Result.andThen_ok, List.map_toArray, List.map_cons, List.map_nil, hs, hx, hrun]
  exact h a' c' w' h2 h3 h4

/-- append, at an operation of a plain region -/
theorem wl_app {ops : Array Oper} {rest : List Oper} {o : Oper} {f : Act} {Q : Exit → Act → World → Prop} {s x : Operand} {t : TypeId} (hgd : o.guard = none)
    (ho : o.op = .call { callee := .builtin .append, args := #[s, x], argTypes := #[t, t] })
    {e : TypeId} {z : Value} {bytes base : Nat} {a : Option Addr} {n c : Nat} {xs : List Value} {A : Option Addr} {m cx : Nat} {news : List Value}
    (ht : P.underlying t = some (.slice e)) (hinfo : Elem1 P e z bytes) (hz1 : z.cells.size = 1) (hs : f.eval s = .slice a n c) (hown : Own w base e a n c xs) (hx : f.eval x = .slice A m cx) (hsl : Sl w A m cx news)
    (h1 : ∀ u ∈ news, u.oneCell' = true) (h63 : n + m ≤ maxLen) (hbytes : (n + m) * bytes ≤ 140737488355328) (hbase : base ≤ w.heap.size)
    (h : ∀ a' c' w', Own w' base e a' (n + m) c' (xs ++ news) → w.grownBy w' (blk a) → (blk a' = blk a ∨ blk a' = some w.heap.size) → wpList P ops Q rest (f.put o.dst (.slice a' (n + m) c')) w') :
    wpList P ops Q (o :: rest) f w :=
  wpList_plain hgd fun _ hK => wp_app ho ht hinfo hz1 hs hown hx hsl h1 h63 hbytes hbase fun a' c' w' h2 h3 h4 => hK _ _ (h a' c' w' h2 h3 h4)

/-- append, at an operation of a region that draws its order -/
theorem st_app {ops : Array Oper} {o : Oper} {f : Act} {K : Act → World → Prop} {Q : Exit → Act → World → Prop} {E : Prop} {s x : Operand} {t : TypeId} (hgd : o.guard = none)
    (ho : o.op = .call { callee := .builtin .append, args := #[s, x], argTypes := #[t, t] })
    {e : TypeId} {z : Value} {bytes base : Nat} {a : Option Addr} {n c : Nat} {xs : List Value} {A : Option Addr} {m cx : Nat} {news : List Value}
    (ht : P.underlying t = some (.slice e)) (hinfo : Elem1 P e z bytes) (hz1 : z.cells.size = 1) (hs : f.eval s = .slice a n c) (hown : Own w base e a n c xs) (hx : f.eval x = .slice A m cx) (hsl : Sl w A m cx news)
    (h1 : ∀ u ∈ news, u.oneCell' = true) (h63 : n + m ≤ maxLen) (hbytes : (n + m) * bytes ≤ 140737488355328) (hbase : base ≤ w.heap.size)
    (h : ∀ a' c' w', Own w' base e a' (n + m) c' (xs ++ news) → w.grownBy w' (blk a) → (blk a' = blk a ∨ blk a' = some w.heap.size) → K (f.put o.dst (.slice a' (n + m) c')) w') :
    if Region.wanted o (yielded ops f.tmps) = true then Oper.wp P o f w K Q else E := by
  have hw : Region.wanted o (yielded ops f.tmps) = true := by simp [Region.wanted, hgd]
  rw [if_pos hw]
  exact wp_app ho ht hinfo hz1 hs hown hx hsl h1 h63 hbytes hbase h

/-- make of a slice of one-cell elements, its length its capacity -/
theorem run_mk {t e : TypeId} {z : Value} {bytes n : Nat} (ht : P.underlying t = some (.slice e)) (hinfo : Elem1 P e z bytes) (hz1 : z.cells = #[z]) (hb : bytes * n ≤ 281474976710656) (h63 : n ≤ maxLen) :
    ∃ w', (Instr.makeSlice t (.int .i64 n) (.int .i64 n)).run P w = .ok (.slice (some ⟨w.heap.size, 0, none⟩) n n) w' ∧ Own w' w.heap.size e (some ⟨w.heap.size, 0, none⟩) n n (List.replicate n z) ∧ Ext w w' := by
  obtain ⟨i, hi, hz, hsize, hby⟩ := info_parts hinfo
  obtain ⟨w', h1, h2, h3⟩ := run_make_full (P := P) w w.heap.size t e i z 1 ht hi hz hsize .i64 .i64 n (by rw [hby]; exact hb) h63 (Nat.le_refl _)
  refine ⟨w', h1, ?_, (Ext.refl w).grown h3 (by simp)⟩
  rw [Nat.mul_one, hz1, toList_madeCells_one] at h2
  exact h2

theorem wl_mk {ops : Array Oper} {rest : List Oper} {o : Oper} {f : Act} {Q : Exit → Act → World → Prop} {l c : Operand} {t : TypeId} (hg : o.guard = none) (hop : o.op = Op.makeSlice t l c)
    {e : TypeId} {z : Value} {bytes n : Nat} (ht : P.underlying t = some (.slice e)) (hinfo : Elem1 P e z bytes) (hz1 : z.cells = #[z]) (hl : f.eval l = .int .i64 n) (hc : f.eval c = .int .i64 n)
    (hb : bytes * n ≤ 281474976710656) (h63 : n ≤ maxLen)
    (hK : ∀ w', Own w' w.heap.size e (some ⟨w.heap.size, 0, none⟩) n n (List.replicate n z) → Ext w w' → wpList P ops Q rest (f.put o.dst (.slice (some ⟨w.heap.size, 0, none⟩) n n)) w') :
    wpList P ops Q (o :: rest) f w := by
  refine wpList_plain hg fun K hK' => ?_
  obtain ⟨w', hrun, h2, h3⟩ := run_mk (P := P) (w := w) ht hinfo hz1 hb h63
  unfold Oper.wp execOp
  simp only [hop, Sem.run_bind, Sem.run_pure, Result.andThen_ok, hl, hc, hrun, Oper.upon]
  exact hK' _ _ (hK w' h2 h3)
end

end Go.Proofs.Ytegmbdkdgpeahaa
