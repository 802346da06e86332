/- Plain facts about the closure of a set of permutations; words for its queue. -/
import Derived.Test.YtegmbdkdgpeahaaClo1
import Derived.Test.YtegmbdkdgpeahaaObl
namespace Go.Proofs.Ytegmbdkdgpeahaa
open Go Go.RowKit

/-- p is a product of elements of gs -/
def Reach (gs : List (List Int)) (n : Nat) (p : List Int) : Prop := ∃ ws : List (List Int), (∀ g ∈ ws, g ∈ gs) ∧ p = ws.foldr comp (idn n)
theorem reach_id (gs : List (List Int)) (n : Nat) : Reach gs n (idn n) := ⟨[], by simp, rfl⟩
theorem reach_step {gs : List (List Int)} {n : Nat} {g p : List Int} (hg : g ∈ gs) (h : Reach gs n p) : Reach gs n (comp g p) := by
  obtain ⟨ws, h1, rfl⟩ := h
  refine ⟨g :: ws, ?_, rfl⟩
  intro x hx
  rcases List.mem_cons.1 hx with rfl | hx
  · exact hg
  · exact h1 x hx
/-- permutations of n variables -/
def PermsN (gs : List (List Int)) (n : Nat) : Prop := ∀ g ∈ gs, permB g = true ∧ g.length = n
theorem reach_perm {gs : List (List Int)} {n : Nat} (hn : n ≤ 6) (hg : PermsN gs n) {p : List Int} (h : Reach gs n p) : permB p = true ∧ p.length = n := by
  obtain ⟨ws, h1, rfl⟩ := h
  induction ws with
  | nil => exact ⟨idn_perm hn, idn_len n⟩
  | cons g ws ih =>
    obtain ⟨i1, i2⟩ := ih (fun x hx => h1 x (by simp [hx]))
    obtain ⟨j1, j2⟩ := hg g (h1 g (by simp))
    exact ⟨comp_perm j1 i1 (by rw [j2, i2]), by rw [List.foldr_cons, comp_len, i2]⟩

structure ClInv (gs : List (List Int)) (n : Nat) (L q : List (List Int)) : Prop where
  nodup : L.Nodup
  reach : ∀ p ∈ L, Reach gs n p
  one : idn n ∈ L
  sub : ∀ p ∈ q, p ∈ L
  closed : ∀ p ∈ L, p ∉ q → ∀ g ∈ gs, comp g p ∈ L
  short : q.length ≤ L.length

theorem ClInv.start (gs : List (List Int)) (n : Nat) : ClInv gs n [idn n] [idn n] :=
  ⟨by simp, by simp [reach_id], by simp, by simp, by simp, by simp⟩
theorem ClInv.done {gs : List (List Int)} {n : Nat} {L : List (List Int)} (h : ClInv gs n L []) (p : List Int) : p ∈ L ↔ Reach gs n p := by
  refine ⟨h.reach p, ?_⟩
  rintro ⟨ws, h1, rfl⟩
  induction ws with
  | nil => exact h.one
  | cons g ws ih => exact h.closed _ (ih (fun x hx => h1 x (by simp [hx]))) (by simp) g (h1 g (by simp))

structure ClIn (gs : List (List Int)) (n : Nat) (L q : List (List Int)) (a : List Int) (j : Nat) : Prop where
  nodup : L.Nodup
  reach : ∀ p ∈ L, Reach gs n p
  one : idn n ∈ L
  sub : ∀ p ∈ q, p ∈ L
  mem : a ∈ L
  closed : ∀ p ∈ L, p ∉ q → p ≠ a → ∀ g ∈ gs, comp g p ∈ L
  part : ∀ g ∈ gs.take j, comp g a ∈ L
  short : q.length ≤ L.length

theorem ClIn.start {gs : List (List Int)} {n : Nat} {L q : List (List Int)} {a : List Int} (h : ClInv gs n L (a :: q)) : ClIn gs n L q a 0 :=
  ⟨h.nodup, h.reach, h.one, fun p hp => h.sub p (by simp [hp]), h.sub a (by simp), fun p hp hq hne g hg => h.closed p hp (by simp [hq, hne]) g hg, by simp, by have := h.short; simp only [List.length_cons] at this; omega⟩
theorem ClIn.fin {gs : List (List Int)} {n : Nat} {L q : List (List Int)} {a : List Int} {j : Nat} (h : ClIn gs n L q a j) (hj : gs.length ≤ j) : ClInv gs n L q := by
  refine ⟨h.nodup, h.reach, h.one, h.sub, fun p hp hq g hg => ?_, h.short⟩
  by_cases hpa : p = a
  · subst hpa
    exact h.part g (by rw [List.take_of_length_le hj]; exact hg)
  · exact h.closed p hp hq hpa g hg
theorem mem_take_succ {gs : List (List Int)} {j : Nat} (hj : j < gs.length) {g : List Int} (h : g ∈ gs.take (j + 1)) : g ∈ gs.take j ∨ g = gs.getD j [] := by
  rw [List.take_succ_eq_append_getElem hj, List.mem_append] at h
  rcases h with h | h
  · exact Or.inl h
  · right
    simp only [List.mem_singleton] at h
    simp [List.getD_eq_getElem?_getD, hj, h]
theorem ClIn.old {gs : List (List Int)} {n : Nat} {L q : List (List Int)} {a : List Int} {j : Nat} (h : ClIn gs n L q a j) (hj : j < gs.length) (hb : comp (gs.getD j []) a ∈ L) : ClIn gs n L q a (j + 1) := by
  refine ⟨h.nodup, h.reach, h.one, h.sub, h.mem, h.closed, fun g hg => ?_, h.short⟩
  rcases mem_take_succ hj hg with h1 | rfl
  · exact h.part g h1
  · exact hb
theorem ClIn.new {gs : List (List Int)} {n : Nat} {L q : List (List Int)} {a : List Int} {j : Nat} (h : ClIn gs n L q a j) (hj : j < gs.length) (hb : comp (gs.getD j []) a ∉ L) :
    ClIn gs n (L ++ [comp (gs.getD j []) a]) (q ++ [comp (gs.getD j []) a]) a (j + 1) := by
  have hg : gs.getD j [] ∈ gs := by simp [List.getD_eq_getElem?_getD, hj]
  refine ⟨?_, ?_, by simp [h.one], ?_, by simp [h.mem], ?_, ?_, by have := h.short; simp; omega⟩
  · rw [List.nodup_append]
    refine ⟨h.nodup, by simp, ?_⟩
    intro x hx y hy
    simp only [List.mem_singleton] at hy
    subst hy
    rintro rfl
    exact hb hx
  · intro p hp
    rcases List.mem_append.1 hp with hp | hp
    · exact h.reach p hp
    · simp only [List.mem_singleton] at hp
      subst hp
      exact reach_step hg (h.reach a h.mem)
  · intro p hp
    rcases List.mem_append.1 hp with hp | hp
    · simp [h.sub p hp]
    · exact List.mem_append_right _ hp
  · intro p hp hq hne g hg
    simp only [List.mem_append, List.mem_singleton, not_or] at hq
    rcases List.mem_append.1 hp with hp | hp
    · simp [h.closed p hp hq.1 hne g hg]
    · simp only [List.mem_singleton] at hp
      exact absurd hp hq.2
  · intro g hg
    rcases mem_take_succ hj hg with h1 | rfl
    · simp [h.part g h1]
    · simp

/-- a list without repetition is no longer than one that holds its elements -/
theorem nodup_le : ∀ (L M : List (List Int)), L.Nodup → (∀ x ∈ L, x ∈ M) → L.length ≤ M.length
  | [], _, _, _ => by simp
  | x :: L, M, hn, hs => by
    rw [List.nodup_cons] at hn
    have hx : x ∈ M := hs x (by simp)
    have := nodup_le L (M.erase x) hn.2 (fun y hy => (List.mem_erase_of_ne (by rintro rfl; exact hn.1 hy)).2 (hs y (by simp [hy])))
    rw [List.length_erase_of_mem hx] at this
    have : 0 < M.length := List.length_pos_of_mem hx
    simp only [List.length_cons]
    omega
theorem gen_len : ∀ n, n < 7 → (gen n (idn n)).length ≤ 720 := by decide +kernel
theorem reach_bound {gs : List (List Int)} {n : Nat} (hn : n ≤ 6) (hg : PermsN gs n) {L : List (List Int)} (hnd : L.Nodup) (hr : ∀ p ∈ L, Reach gs n p) : L.length ≤ 720 := by
  refine Nat.le_trans (nodup_le L (gen n (idn n)) hnd fun p hp => ?_) (gen_len n (by omega))
  obtain ⟨h1, h2⟩ := reach_perm hn hg (hr p hp)
  refine mem_gen n (idn n) p h2 (perm_spec h1).2.2 fun x hx => mem_idn.2 ?_
  have := (perm_spec h1).2.1 x hx
  rw [h2] at this
  exact this

/-- the set as the map holds it -/
def kmap (L : List (List Int)) : List (List Int × Value) := L.map (fun p => (pad6 p, Value.bool true))
theorem kmap_keys (L : List (List Int)) : (kmap L).map (·.1) = L.map pad6 := by simp [kmap]
theorem mem_pad {n : Nat} {L : List (List Int)} {p : List Int} (hL : ∀ x ∈ L, x.length = n) (hp : p.length = n) : pad6 p ∈ L.map pad6 ↔ p ∈ L := by
  rw [List.mem_map]
  constructor
  · rintro ⟨x, hx, e⟩
    rwa [← pad6_inj (by rw [hL x hx, hp]) e]
  · intro h
    exact ⟨p, h, rfl⟩
theorem kmap_val {L : List (List Int)} {k : List Int} {i : Nat} {v : Value} (h : findE k 0 (kmap L) = some (i, v)) : v = .bool true := by
  obtain ⟨_, h2⟩ := findE_some h
  have := List.mem_of_getElem? h2
  simp only [kmap, List.mem_map] at this
  obtain ⟨x, _, e⟩ := this
  exact ((Prod.mk.injEq ..).mp e).2.symm
theorem kmap_look {n : Nat} {L : List (List Int)} {p : List Int} (hL : ∀ x ∈ L, x.length = n) (hp : p.length = n) : lookD (.bool false) (kmap L) (pad6 p) = .bool (decide (p ∈ L)) := by
  unfold lookD
  cases h : findE (pad6 p) 0 (kmap L) with
  | none =>
    have := findE_none.1 h
    rw [kmap_keys, mem_pad hL hp] at this
    simp [this]
  | some q =>
    obtain ⟨i, v⟩ := q
    have hv := kmap_val h
    have hm : p ∈ L := by
      rw [← mem_pad hL hp, ← kmap_keys]
      by_cases hx : pad6 p ∈ (kmap L).map (·.1)
      · exact hx
      · rw [← findE_none (i := 0)] at hx
        rw [h] at hx
        cases hx
    simp [hv, hm]
theorem kmap_put {n : Nat} {L : List (List Int)} {p : List Int} (hL : ∀ x ∈ L, x.length = n) (hp : p.length = n) (hn : p ∉ L) : putM (kmap L) (pad6 p) (.bool true) = kmap (L ++ [p]) := by
  have : findE (pad6 p) 0 (kmap L) = none := by
    rw [findE_none, kmap_keys, mem_pad hL hp]
    exact hn
  unfold putM
  rw [this]
  simp [kmap]

/-- the slices in the queue -/
def QEl (w : World) (base : Nat) (qc : List Value) (q : List (List Int)) : Prop := ∀ i, i < q.length → ∃ a n c, qc.getD i undef = .slice a n c ∧ OwnI w base a n c (q.getD i [])
theorem QEl.ext {w w' : World} {base : Nat} {qc : List Value} {q : List (List Int)} (h : QEl w base qc q) (e : Ext w w') : QEl w' base qc q :=
  fun i hi => let ⟨a, n, c, h1, h2⟩ := h i hi; ⟨a, n, c, h1, h2.ext e⟩
theorem own_ne_map {w : World} {base : Nat} {e : TypeId} {a : Option Addr} {n c r : Nat} {cs : List Value} {m : List (List Int × Value)} (h : Own w base e a n c cs) (hm : MapIs w r m) : blk a = none ∨ blk a ≠ some r := by
  rcases h.2 with ⟨hv, _⟩ | ⟨g, cap, cur, hv, _, hh, _⟩
  · simp only [Value.slice.injEq] at hv
    left
    rw [hv.1]
    rfl
  · simp only [Value.slice.injEq] at hv
    right
    rw [hv.1]
    intro he
    have : g = r := by simpa [blk] using he
    subst this
    have := hm.obj
    rw [hh] at this
    cases this
theorem own_ne_ownO {w : World} {base base' : Nat} {e e' : TypeId} {a a' : Option Addr} {n c n' c' : Nat} {cs cs' : List Value} (h : Own w base e a n c cs) (h' : OwnO w base' e' a' n' c' cs') (hne : e ≠ e') : blk a = none ∨ blk a ≠ blk a' := by
  rcases h.2 with ⟨hv, _⟩ | ⟨g, cap, cur, hv, _, hh, _⟩
  · simp only [Value.slice.injEq] at hv
    left
    rw [hv.1]
    rfl
  · simp only [Value.slice.injEq] at hv
    right
    rw [hv.1]
    rcases h'.2.2.2 with ⟨ha, _⟩ | ⟨g', off, cur', ha, _, hh', _⟩
    · subst ha
      simp [blk]
    · subst ha
      intro he
      have : g = g' := by simpa [blk] using he
      subst this
      rw [hh] at hh'
      simp only [Option.some.injEq, Obj.cells.injEq] at hh'
      exact hne hh'.2.1
theorem ownO_ne_map {w : World} {base : Nat} {e : TypeId} {a : Option Addr} {n c r : Nat} {cs : List Value} {m : List (List Int × Value)} (h : OwnO w base e a n c cs) (hm : MapIs w r m) : blk a = none ∨ blk a ≠ some r := by
  rcases h.2.2.2 with ⟨ha, _⟩ | ⟨g, off, cur, ha, _, hh, _⟩
  · subst ha
    exact Or.inl rfl
  · subst ha
    right
    intro he
    have : g = r := by simpa [blk] using he
    subst this
    have := hm.obj
    rw [hh] at this
    cases this
theorem QEl.kept {w w' : World} {base : Nat} {qc : List Value} {q : List (List Int)} {row : Option Nat} (h : QEl w base qc q) (hg : w.grownBy w' row) (hne : ∀ a n c xs, OwnI w base a n c xs → blk a = none ∨ blk a ≠ row) : QEl w' base qc q :=
  fun i hi => let ⟨a, n, c, h1, h2⟩ := h i hi; ⟨a, n, c, h1, Own.kept h2 hg (hne _ _ _ _ h2)⟩
theorem QEl.tail {w : World} {base : Nat} {qc : List Value} {p : List Int} {q : List (List Int)} (h : QEl w base qc (p :: q)) : QEl w base (qc.drop 1) q := by
  intro i hi
  obtain ⟨a, n, c, h1, h2⟩ := h (i + 1) (by simpa using hi)
  refine ⟨a, n, c, ?_, by simpa using h2⟩
  rw [← h1]
  simp [List.getD_eq_getElem?_getD]
theorem QEl.snoc {w : World} {base : Nat} {qc : List Value} {p : List Int} {q : List (List Int)} {a : Option Addr} {n c : Nat} (h : QEl w base qc q) (hl : qc.length = q.length) (hp : OwnI w base a n c p) : QEl w base (qc ++ [.slice a n c]) (q ++ [p]) := by
  intro i hi
  simp only [List.length_append, List.length_singleton] at hi
  by_cases h1 : i < q.length
  · obtain ⟨a', n', c', h2, h3⟩ := h i h1
    refine ⟨a', n', c', ?_, ?_⟩
    · rw [← h2]
      simp [List.getD_eq_getElem?_getD, List.getElem?_append_left (show i < qc.length by omega)]
    · simpa [List.getD_eq_getElem?_getD, List.getElem?_append_left h1] using h3
  · have : i = q.length := by omega
    subst this
    refine ⟨a, n, c, ?_, ?_⟩
    · simp [List.getD_eq_getElem?_getD, ← hl]
    · simpa [List.getD_eq_getElem?_getD] using hp

/-- s[k:] of a queue -/
theorem wl_cutO {P : Program} {w : World} {ops : Array Oper} {rest : List Oper} {o : Oper} {f : Act} {Q : Exit → Act → World → Prop} {t : TypeId} {x y : Operand} (hgd : o.guard = none) (ho : o.op = .slice t x (some y) none none)
    {e : TypeId} {z : Value} {bytes base : Nat} {a : Option Addr} {n c k : Nat} {cs : List Value} (ht : P.underlying t = some (.slice e)) (hinfo : Elem1 P e z bytes) (hx : f.eval x = .slice a n c) (hy : f.eval y = .int .i64 k) (h : OwnO w base e a n c cs) (hk : k ≤ n)
    (hK : ∀ a', blk a' = blk a → OwnO w base e a' (n - k) (c - k) (cs.drop k) → wpList P ops Q rest (f.put o.dst (.slice a' (n - k) (c - k))) w) : wpList P ops Q (o :: rest) f w := by
  refine wpList_plain hgd fun K hK' => ?_
  unfold Oper.wp execOp
  simp only [ho, hx, hy, Option.map_some, Option.map_none, Sem.run_bind, run_slice_from ht hinfo hk, Result.andThen_ok, Sem.run_pure, Oper.upon]
  refine hK' _ _ (hK _ ?_ (h.from hk))
  split
  · rfl
  · cases a with
    | none => rfl
    | some b => simp [blk, Addr.add]; split <;> rfl

end Go.Proofs.Ytegmbdkdgpeahaa
