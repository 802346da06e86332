/- The contract of the program's Orbits. -/
import Derived.Test.YtegmbdkdgpeahaaOrb2
import Derived.Test.YtegmbdkdgpeahaaMono
namespace Go.Proofs.Ytegmbdkdgpeahaa
open Go Go.RowKit

/-- what Orbits answers -/
noncomputable def orbitsS (gs ls : List (List Int)) : List (List Int) × Int :=
  if isGB gs = true ∧ ls.all validS = true then
    if ls.all (fun m => decide (m.length = (gs.getD 0 []).length)) = true then
      if 64 < ls.length then ([], 2) else (orbS (ls.map (repS gs)), 0)
    else ([], 4)
  else ([], 1)

/-- the block of a slice -/
def sBlk : Value → Option Nat
  | .slice a _ _ => blk a
  | _ => none
/-- the slices lie in different blocks -/
def DJ (qc : List Value) : Prop := ∀ i j, i < qc.length → j < qc.length → i ≠ j → sBlk (qc.getD i undef) = none ∨ sBlk (qc.getD i undef) ≠ sBlk (qc.getD j undef)

/-- a list of lists of one's own, each in a block of its own -/
structure OB (w : World) (base : Nat) (a : Option Addr) (n c : Nat) (qc : List Value) (os : List (List Int)) : Prop where
  row : Own w base 22 a n c qc
  len : os.length = n
  els : QEl w base qc os
  dj : DJ qc

theorem OB.ext {w w' : World} {base : Nat} {a : Option Addr} {n c : Nat} {qc : List Value} {os : List (List Int)} (h : OB w base a n c qc os) (e : Ext w w') : OB w' base a n c qc os :=
  ⟨h.row.ext e, h.len, h.els.ext e, h.dj⟩
theorem OB.qlen {w : World} {base : Nat} {a : Option Addr} {n c : Nat} {qc : List Value} {os : List (List Int)} (h : OB w base a n c qc os) : qc.length = os.length := by rw [h.row.len, h.len]
theorem OB.nil (w : World) (base : Nat) : OB w base none 0 0 [] [] :=
  ⟨Own.nil _ _ _, rfl, fun i hi => by simp at hi, fun i j hi => by simp at hi⟩
theorem OB.slL {w : World} {base : Nat} {a : Option Addr} {n c : Nat} {qc : List Value} {os : List (List Int)} (h : OB w base a n c qc os) : SlL w a n c os :=
  ⟨h.len, qc, h.row.sl, fun i hi => let ⟨a', n', c', h1, h2⟩ := h.els i (by rw [h.len]; exact hi); ⟨a', n', c', h1, h2.sl⟩⟩
theorem OB.put {w w' : World} {base r : Nat} {a : Option Addr} {n c : Nat} {qc : List Value} {os : List (List Int)} {m m' : List (List Int × Value)} (h : OB w base a n c qc os) (hm : MapIs w r m) (hg : w.grownBy w' (some r)) (_ : MapIs w' r m') : OB w' base a n c qc os :=
  ⟨h.row.kept hg (own_ne_map h.row hm), h.len, h.els.kept hg (fun _ _ _ _ h' => own_ne_map h' hm), h.dj⟩

theorem getD_app_l {l k : List Value} {i : Nat} (h : i < l.length) : (l ++ k).getD i undef = l.getD i undef := by
  simp [List.getD_eq_getElem?_getD, List.getElem?_append_left h]
theorem getD_app_r {l : List Value} {v : Value} : (l ++ [v]).getD l.length undef = v := by simp [List.getD_eq_getElem?_getD]
theorem getD_setV {l : List Value} {i j : Nat} {v : Value} (hi : i < l.length) : (l.set i v).getD j undef = if i = j then v else l.getD j undef := by
  simp only [List.getD_eq_getElem?_getD, List.getElem?_set]
  by_cases h : i = j
  · subst h
    simp [hi]
  · simp [h]
theorem getD_setL {l : List (List Int)} {i j : Nat} {v : List Int} (hi : i < l.length) : (l.set i v).getD j [] = if i = j then v else l.getD j [] := by
  simp only [List.getD_eq_getElem?_getD, List.getElem?_set]
  by_cases h : i = j
  · subst h
    simp [hi]
  · simp [h]

/-- one more list, which is nil -/
theorem OB.more {w w' : World} {base : Nat} {a a' : Option Addr} {n c c' : Nat} {qc : List Value} {os : List (List Int)} (h : OB w base a n c qc os) (ho : Own w' base 22 a' (n + 1) c' (qc ++ [.slice none 0 0])) (hg : w.grownBy w' (blk a)) : OB w' base a' (n + 1) c' (qc ++ [.slice none 0 0]) (os ++ [[]]) := by
  have hl := h.qlen
  refine ⟨ho, by rw [List.length_append, h.len]; rfl, ?_, ?_⟩
  · have h2 : QEl w' base qc os := h.els.kept hg (fun _ _ _ _ h' => own_ne_own h' h.row (by decide))
    exact h2.snoc hl (Own.nil _ _ _)
  · intro i j hi hj hne
    simp only [List.length_append, List.length_singleton] at hi hj
    by_cases h1 : i < qc.length
    · by_cases h2 : j < qc.length
      · rw [getD_app_l h1, getD_app_l h2]
        exact h.dj i j h1 h2 hne
      · have : j = qc.length := by omega
        subst this
        rw [getD_app_l h1, getD_app_r]
        cases hq : sBlk (qc.getD i undef) with
        | none => exact Or.inl rfl
        | some k => exact Or.inr (by simp [sBlk, blk])
    · have : i = qc.length := by omega
      subst this
      rw [getD_app_r]
      exact Or.inl rfl

theorem OB.blkLt {w : World} {base : Nat} {a : Option Addr} {n c : Nat} {qc : List Value} {os : List (List Int)} (h : OB w base a n c qc os) {i k : Nat} (hi : i < qc.length) (hk : sBlk (qc.getD i undef) = some k) : k < w.heap.size := by
  obtain ⟨a', n', c', h1, h2⟩ := h.els i (by rw [← h.qlen]; exact hi)
  rw [h1] at hk
  exact (Own.lt h2 hk).2

/-- one of the lists grows: the world behind the append -/
theorem OB.grow {w w' : World} {base g : Nat} {n c j : Nat} {qc : List Value} {os : List (List Int)} {a a' : Option Addr} {n1 c1 c' : Nat} {ys : List Int} (h : OB w base (some ⟨g, 0, none⟩) n c qc os) (hj : j < n) (hq : qc.getD j undef = .slice a n1 c1)
    (ho : OwnI w' base a' (n1 + 1) c' ys) (hg : w.grownBy w' (blk a)) (hb : blk a' = blk a ∨ blk a' = some w.heap.size) :
    Own w' base 22 (some ⟨g, 0, none⟩) n c qc ∧ OB (w'.setCell ⟨g, j, none⟩ (.slice a' (n1 + 1) c')) base (some ⟨g, 0, none⟩) n c (qc.set j (.slice a' (n1 + 1) c')) (os.set j ys) := by
  have hl := h.qlen
  have hjq : j < qc.length := by rw [hl, h.len]; exact hj
  obtain ⟨a2, n2, c2, e2, o2⟩ := h.els j (by rw [← hl]; exact hjq)
  rw [hq] at e2
  simp only [Value.slice.injEq] at e2
  obtain ⟨rfl, rfl, rfl⟩ := e2
  have hr : Own w' base 22 (some ⟨g, 0, none⟩) n c qc := h.row.kept hg (own_ne_own h.row o2 (by decide))
  refine ⟨hr, hr.stored j _, by rw [List.length_set, h.len], ?_, ?_⟩
  · intro i hi
    rw [List.length_set] at hi
    have hset := grown_setCell w' g j (.slice a' (n1 + 1) c')
    rw [getD_setV hjq, getD_setL (by rw [← hl]; exact hjq)]
    by_cases hij : j = i
    · subst hij
      rw [if_pos rfl, if_pos rfl]
      exact ⟨a', n1 + 1, c', rfl, Own.kept ho hset (by have := own_ne_own ho hr (by decide); exact this)⟩
    · rw [if_neg hij, if_neg hij]
      obtain ⟨a3, n3, c3, e3, o3⟩ := h.els i hi
      refine ⟨a3, n3, c3, e3, ?_⟩
      have hd := h.dj i j (by rw [hl]; exact hi) hjq (fun h => hij h.symm)
      rw [e3, hq] at hd
      have o4 : OwnI w' base a3 n3 c3 (os.getD i []) := Own.kept o3 hg hd
      exact Own.kept o4 hset (by have := own_ne_own o4 hr (by decide); exact this)
  · have key : ∀ i, i < qc.length → i ≠ j → sBlk (qc.getD i undef) = none ∨ sBlk (qc.getD i undef) ≠ blk a' := by
      intro i hi hne
      have hd := h.dj i j hi hjq hne
      rw [hq] at hd
      rcases hd with hd | hd
      · exact Or.inl hd
      · rcases hb with hb | hb
        · right; rw [hb]; exact hd
        · right
          rw [hb]
          intro he
          have := h.blkLt hi he
          omega
    intro i k hi hk hne
    rw [List.length_set] at hi hk
    rw [getD_setV hjq, getD_setV hjq]
    by_cases hij : j = i
    · subst hij
      rw [if_pos rfl, if_neg hne]
      rcases key k hk (fun h => hne h.symm) with h1 | h1
      · cases hq' : blk a' with
        | none => exact Or.inl hq'
        | some z => right; rw [h1]; show blk a' ≠ none; rw [hq']; simp
      · exact Or.inr (fun h2 => h1 h2.symm)
    · rw [if_neg hij]
      by_cases hkj : j = k
      · subst hkj
        rw [if_pos rfl]
        exact key i hi (fun h => hij h.symm)
      · rw [if_neg hkj]
        exact h.dj i k hi hk hne

end Go.Proofs.Ytegmbdkdgpeahaa
