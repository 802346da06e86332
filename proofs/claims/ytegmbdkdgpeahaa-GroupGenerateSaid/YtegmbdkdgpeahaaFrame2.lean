/- From what a row says of a slice of slices of ints that came in to the slice predicate of the walks. -/
import Derived.Test.YtegmbdkdgpeahaaFrame
import Derived.ProofKit
import Derived.Deep.Matrix
namespace Go.Proofs.Ytegmbdkdgpeahaa
open Go Go.RowKit

theorem add_none {b off i : Nat} : Addr.add ⟨b, off, none⟩ i = ⟨b, off + i, none⟩ := by
  unfold Addr.add
  split
  · next h => subst h; rfl
  · rfl

theorem slL_rows {H : Type} {enc : TypeId × Value → H} {P : Program} {w : World} {base : Nat} {held : Bool} {t e q : TypeId} {fuel : Nat} {a : Option Addr} {n c : Nat} {x : DataW H × List MemPlace}
    (ht : P.underlying t = some (.slice e)) (he : P.underlying e = some (.slice q)) (hq : P.underlying q = some (.int .i64)) (ce : P.cellsOf e = 1) (cq : P.cellsOf q = 1)
    (h : DataW.trod enc P w base (fun _ => true) held fuel t [.slice a n c] = some x) : ∃ xss, SlL w a n c xss := by
  rcases Deep.open_int_rows ht he hq ce cq h with ⟨hcs, _⟩ | ⟨y, len, cap, A, L, C, Z, hcs, _, hl, hm, _, hr⟩
  · simp only [List.cons.injEq, Value.slice.injEq, and_true] at hcs
    obtain ⟨rfl, rfl, rfl⟩ := hcs
    exact ⟨[], rfl, [], Sl.nil w, fun i hi => by omega⟩
  · simp only [List.cons.injEq, Value.slice.injEq, and_true] at hcs
    obtain ⟨rfl, rfl, rfl⟩ := hcs
    refine ⟨(List.range n).map (fun r => (Z r).take (L r)), by simp, (List.range n).map (fun r => .slice (A r) (L r) (C r)), ⟨by simp, hl, hm, fun hn => ?_⟩, fun i hi => ?_⟩
    · have h0 := (hr 0 (by omega)).1
      have hs : y.spot = none := spot_none (x := y) (by simpa [Addr.add] using h0)
      obtain ⟨b, off, sp⟩ := y
      simp only at hs
      subst hs
      refine ⟨b, off, rfl, fun i hi => ?_⟩
      have := (hr i (by omega)).1
      rw [add_none] at this
      rw [this]
      simp [List.getD_eq_getElem?_getD, hi]
    · obtain ⟨_, h2, h3, h4, _, h6, h7⟩ := hr i (by omega)
      refine ⟨A i, L i, C i, by simp [List.getD_eq_getElem?_getD, hi], ?_⟩
      have e1 : ((List.range n).map (fun r => (Z r).take (L r))).getD i [] = (Z i).take (L i) := by simp [List.getD_eq_getElem?_getD, hi]
      rw [e1]
      refine ⟨by simp; omega, h2, h3, fun hn => ?_⟩
      cases hA : A i with
      | none => have := h6 hA; omega
      | some a' =>
        have hc := (h7 a' hA).2
        have hs : a'.spot = none := spot_none (x := a') (by simpa [Addr.add] using hc 0 (by omega))
        obtain ⟨b, off, sp⟩ := a'
        simp only at hs
        subst hs
        refine ⟨b, off, rfl, fun j hj => ?_⟩
        have := hc j (by omega)
        rw [add_none] at this
        rw [this]
        have hj' : j < (Z i).length := by omega
        simp [List.getD_eq_getElem?_getD, hj, hj']

end Go.Proofs.Ytegmbdkdgpeahaa
