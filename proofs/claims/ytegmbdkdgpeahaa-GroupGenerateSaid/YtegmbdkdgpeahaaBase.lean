/- Plain words about memory that the walks of this seat share: a world that extends another, a slice that reads as a list. -/
import Derived.WalkKit
import Derived.Lib.Hide
import Derived.Deep.Draws
namespace Go.Proofs.Ytegmbdkdgpeahaa
open Go Go.RowKit

/-- w' extends w: every block of w is as it was. -/
def Ext (w w' : World) : Prop := Below w.heap.size w w'

theorem Ext.refl (w : World) : Ext w w := Below.refl _ _
theorem Ext.trans {a b c : World} (h : Ext a b) (k : Ext b c) : Ext a c := Below.trans h (Below.mono k h.size)
theorem Ext.size {w w' : World} (h : Ext w w') : w.heap.size ≤ w'.heap.size := Below.size h
theorem Ext.drewN {w w' : World} (h : Ext w w') (n : Nat) : Ext w (w'.drewN n) := ⟨h.os, h.tape, h.output, h.size, h.block⟩
theorem Ext.drew {w w' : World} (h : Ext w w') : Ext w w'.drew := ⟨h.os, h.tape, h.output, h.size, h.block⟩
theorem Ext.alloc {w w' : World} (h : Ext w w') (o : Obj) : Ext w (w'.alloc o) := Below.alloc h h.size o
theorem Ext.setCell {w w' : World} (h : Ext w w') {p : Addr} (hp : w.heap.size ≤ p.block) (u : Value) : Ext w (w'.setCell p u) := Below.setCell h hp u
theorem Ext.grown {w w1 w' : World} {row : Option Nat} (h : Ext w w1) (hg : w1.grownBy w' row) (hr : ∀ k, row = some k → w.heap.size ≤ k) : Ext w w' :=
  Below.grown h hg h.size hr
theorem Ext.block {w w' : World} (h : Ext w w') {k : Nat} (hk : k < w.heap.size) : w'.heap[k]? = w.heap[k]? := Below.block h k hk
theorem Ext.cell {w w' : World} (h : Ext w w') {p : Addr} {v : Value} (hp : w.cell? p = some v) : w'.cell? p = some v := by
  rw [World.cell?_of_block (w := w) (h.block (World.block_lt_of_cell? w p hp)), hp]

/-- w' is w after some draws. -/
def Qt (w w' : World) : Prop := ∃ n, w' = w.drewN n
theorem Qt.refl (w : World) : Qt w w := ⟨0, rfl⟩
theorem Qt.drewN {w w' : World} (h : Qt w w') (n : Nat) : Qt w (w'.drewN n) := by
  obtain ⟨m, rfl⟩ := h
  exact ⟨m + n, by rw [World.drewN_drewN]⟩
theorem Qt.drew {w w' : World} (h : Qt w w') : Qt w w'.drew := h.drewN 1
theorem Qt.trans {a b c : World} (h : Qt a b) (k : Qt b c) : Qt a c := by
  obtain ⟨m, rfl⟩ := k
  exact h.drewN m
theorem Qt.ext {w w' : World} (h : Qt w w') : Ext w w' := by
  obtain ⟨m, rfl⟩ := h
  exact (Ext.refl w).drewN m

theorem retB {a b : Bool} (h : b = a) : Ending.returned (.bool a) = .returned (.bool b) := by rw [h]
theorem retN {k : IntKind} {a b : Int} (h : b = a) : Ending.returned (.int k a) = .returned (.int k b) := by rw [h]

/-- The slice (a, n, c) holds the cells cs. -/
structure Sl (w : World) (a : Option Addr) (n c : Nat) (cs : List Value) : Prop where
  len : cs.length = n
  cap : n ≤ c
  max : c ≤ maxLen
  rd : 0 < n → ∃ b off, a = some ⟨b, off, none⟩ ∧ ∀ i, i < n → w.cell? ⟨b, off + i, none⟩ = some (cs.getD i undef)

theorem Sl.ext {w w' : World} {a : Option Addr} {n c : Nat} {cs : List Value} (h : Sl w a n c cs) (e : Ext w w') : Sl w' a n c cs :=
  ⟨h.len, h.cap, h.max, fun h0 => let ⟨b, off, ha, hc⟩ := h.rd h0; ⟨b, off, ha, fun i hi => e.cell (hc i hi)⟩⟩

theorem Sl.nil (w : World) : Sl w none 0 0 [] := ⟨rfl, Nat.le_refl _, Nat.zero_le _, fun h => absurd h (Nat.lt_irrefl _)⟩

/-- A slice of ints. -/
def SlI (w : World) (a : Option Addr) (n c : Nat) (xs : List Int) : Prop := Sl w a n c (xs.map (Value.int .i64))

theorem SlI.ext {w w' : World} {a : Option Addr} {n c : Nat} {xs : List Int} (h : SlI w a n c xs) (e : Ext w w') : SlI w' a n c xs := Sl.ext h e
theorem SlI.len {w : World} {a : Option Addr} {n c : Nat} {xs : List Int} (h : SlI w a n c xs) : xs.length = n := by
  have := Sl.len h; simpa using this
theorem SlI.le {w : World} {a : Option Addr} {n c : Nat} {xs : List Int} (h : SlI w a n c xs) : n ≤ 9223372036854775807 := by
  have h1 := Sl.cap h; have h2 := Sl.max h; unfold maxLen at h2; omega
theorem SlI.at {w : World} {a : Option Addr} {n c : Nat} {xs : List Int} (h : SlI w a n c xs) {k : Nat} (hk : k < n) :
    ∃ b off, a = some ⟨b, off, none⟩ ∧ ∀ i, i < n → w.cell? ⟨b, off + i, none⟩ = some (.int .i64 (xs.getD i 0)) := by
  obtain ⟨b, off, ha, hc⟩ := Sl.rd h (by omega)
  refine ⟨b, off, ha, fun i hi => ?_⟩
  rw [hc i hi]
  have hl := h.len
  have hi' : i < xs.length := by omega
  simp [List.getD_eq_getElem?_getD, hi']

/-- A slice of slices of ints. -/
def SlL (w : World) (a : Option Addr) (n c : Nat) (xss : List (List Int)) : Prop :=
  xss.length = n ∧ ∃ cs, Sl w a n c cs ∧ ∀ i, i < n → ∃ a' n' c', cs.getD i undef = .slice a' n' c' ∧ SlI w a' n' c' (xss.getD i [])

theorem SlL.ext {w w' : World} {a : Option Addr} {n c : Nat} {xss : List (List Int)} (h : SlL w a n c xss) (e : Ext w w') : SlL w' a n c xss := by
  obtain ⟨hl, cs, h1, h2⟩ := h
  exact ⟨hl, cs, h1.ext e, fun i hi => let ⟨a', n', c', h3, h4⟩ := h2 i hi; ⟨a', n', c', h3, h4.ext e⟩⟩
theorem SlL.len {w : World} {a : Option Addr} {n c : Nat} {xss : List (List Int)} (h : SlL w a n c xss) : xss.length = n := h.1
theorem SlL.le {w : World} {a : Option Addr} {n c : Nat} {xss : List (List Int)} (h : SlL w a n c xss) : n ≤ 9223372036854775807 := by
  obtain ⟨_, cs, h, _⟩ := h
  have h1 := Sl.cap h; have h2 := Sl.max h; unfold maxLen at h2; omega
theorem SlL.at {w : World} {a : Option Addr} {n c : Nat} {xss : List (List Int)} (h : SlL w a n c xss) {k : Nat} (hk : k < n) :
    ∃ b off a' n' c', a = some ⟨b, off, none⟩ ∧ w.cell? ⟨b, off + k, none⟩ = some (.slice a' n' c') ∧ SlI w a' n' c' (xss.getD k []) := by
  obtain ⟨hl, cs, h1, h2⟩ := h
  obtain ⟨b, off, ha, hc⟩ := h1.rd (by omega)
  obtain ⟨a', n', c', h3, h4⟩ := h2 k hk
  exact ⟨b, off, a', n', c', ha, by rw [hc k hk, h3], h4⟩

/-- Slices that the call made itself. -/
theorem Sl.of_owns {w : World} {base : Nat} {e : TypeId} {a : Option Addr} {n n' c : Nat} {cs : List Value} (h : w.ownsRow base e 1 (.slice a n c) n' cs) : Sl w a n c cs := by
  obtain ⟨hl, h⟩ := h
  rcases h with ⟨hv, hn⟩ | ⟨g, cap, cur, hv, hb, hh, hnc, hm, hs, ht⟩
  · simp only [Value.slice.injEq] at hv
    obtain ⟨rfl, rfl, rfl⟩ := hv
    subst hn
    have : cs = [] := by simpa using hl
    subst this
    exact Sl.nil w
  · simp only [Value.slice.injEq] at hv
    obtain ⟨rfl, rfl, rfl⟩ := hv
    refine ⟨by simpa using hl, hnc, hm, fun _ => ⟨g, 0, rfl, fun i hi => ?_⟩⟩
    have hl' : cs.length = n := by simpa using hl
    have e1 : cs.getD i undef = cur.toList.getD i undef := by
      rw [← ht]
      simp [List.getD_eq_getElem?_getD, hi]
    have hi2 : i < cur.size := by omega
    rw [e1]
    simp [World.cell?, hh, List.getD_eq_getElem?_getD, hi2]

theorem owns_ext {w w' : World} {base : Nat} {e : TypeId} {size : Nat} {v : Value} {n : Nat} {xs : List Value} (h : w.ownsRow base e size v n xs) (k : Ext w w') : w'.ownsRow base e size v n xs := by
  obtain ⟨h1, h2⟩ := h
  refine ⟨h1, ?_⟩
  rcases h2 with h2 | ⟨g, cap, cur, hv, hg, hh, r⟩
  · exact Or.inl h2
  · refine Or.inr ⟨g, cap, cur, hv, hg, ?_, r⟩
    have hlt : g < w.heap.size := by
      rcases Nat.lt_or_ge g w.heap.size with h | h
      · exact h
      · simp [Array.getElem?_eq_none h] at hh
    rw [k.block hlt, hh]

end Go.Proofs.Ytegmbdkdgpeahaa
