/- From what a row says of a slice of ints that came in to the slice predicate of the walks. -/
import Derived.Test.YtegmbdkdgpeahaaBase
namespace Go.Proofs.Ytegmbdkdgpeahaa
open Go Go.RowKit

/-- an address that bears a cell has no spot -/
theorem spot_none {w : World} {x : Addr} {v : Value} (h : w.cell? x = some v) : x.spot = none := by
  unfold World.cell? at h
  split at h
  · cases hs : x.spot with
    | none => rfl
    | some s => rw [hs] at h; simp at h
  · cases h

theorem slI_row {w : World} {a : Option Addr} {len cap : Nat} {zs : List Int}
    (h : (a = none ∧ len = 0 ∧ cap = 0 ∧ zs = []) ∨ ∃ x, a = some x ∧ len ≤ cap ∧ cap ≤ maxLen ∧ zs.length = cap ∧ (∀ i, i < zs.length → w.cell? (x.add i) = some (.int .i64 (zs.getD i 0))) ∧ ∀ n ∈ zs, (Lit.int .i64 n).wf = true) :
    SlI w a len cap (zs.take len) := by
  rcases h with ⟨rfl, rfl, rfl, rfl⟩ | ⟨x, rfl, h1, h2, h3, h4, _⟩
  · exact Sl.nil w
  · refine ⟨by simp; omega, h1, h2, fun hn => ?_⟩
    have h0 := h4 0 (by omega)
    have hs : x.spot = none := spot_none (x := x) (by simpa [Addr.add] using h0)
    obtain ⟨b, off, sp⟩ := x
    simp only at hs
    subst hs
    refine ⟨b, off, rfl, fun i hi => ?_⟩
    have := h4 i (by omega)
    have ea : Addr.add ⟨b, off, none⟩ i = ⟨b, off + i, none⟩ := by
      unfold Addr.add
      split
      · next h => subst h; rfl
      · rfl
    rw [ea] at this
    rw [this]
    have hi' : i < zs.length := by omega
    simp [List.getD_eq_getElem?_getD, hi, hi']

end Go.Proofs.Ytegmbdkdgpeahaa
