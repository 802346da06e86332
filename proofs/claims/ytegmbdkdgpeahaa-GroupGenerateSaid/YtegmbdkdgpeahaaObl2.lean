/- Notes of plain operations, of operations that are not wanted, and of calls, for the law of typed regions. Over any program. -/
import Derived.Test.YtegmbdkdgpeahaaObl
namespace Go.Proofs.Ytegmbdkdgpeahaa
open Go Go.RowKit

section
variable {P : Program} {ops : Array Oper} {hs : List Hd} {a0 : Act} {C : World → Prop} {i : Nat} {o : Oper}

/-- a wanted operation that yields this value and leaves the world alone -/
theorem obl_pure {c : Value} (hw : wants hs o = some true) (h : ∀ ρ w, Plain ρ → C w → opnds ops hs a0 o ρ w o.op.operands.toList → (execOp ρ o).run P w = .ok (.value c) w) :
    obl P C ops hs a0 i o (he c) := by
  unfold obl
  rw [hw]
  intro ρ w hp hC hx
  rw [h ρ w hp hC hx]
  exact ⟨rfl, rfl⟩
/-- an operation that is not wanted -/
theorem obl_none (hw : wants hs o = some false) : obl P C ops hs a0 i o (he undef) := by
  unfold obl
  rw [hw]
  exact fun w _ => rfl
theorem obl_pmove {c : Value} {x : Operand} (hw : wants hs o = some true) (ho : o.op = .move x ∨ o.op = .assign x) (h : ∀ ρ w, Plain ρ → opnds ops hs a0 o ρ w [x] → ρ x = c) : obl P C ops hs a0 i o (he c) :=
  obl_pure hw fun ρ w hp _ hx => by
    rcases ho with ho | ho <;>
    · rw [ho] at hx
      simp only [execOp, ho, h ρ w hp hx]
      rfl
/-- a wanted call of a Go function that only adds to the world -/
theorem obl_call {p : Value → World → Prop} {cons : Option Nat} (hw : wants hs o = some true)
    (h : ∀ ρ w, Plain ρ → C w → opnds ops hs a0 o ρ w o.op.operands.toList → ∃ f args, (execOp ρ o).run P w = .ok (.enter f args) w ∧ Calls P f args w (fun e w' => ∃ u, e = .returned u ∧ Ext w w' ∧ p u w')) :
    obl P C ops hs a0 i o ⟨false, .pr p, cons⟩ := by
  unfold obl
  rw [hw]
  intro ρ w hp hC hx
  obtain ⟨f, args, hr, hc⟩ := h ρ w hp hC hx
  rw [hr]
  exact hc
end

end Go.Proofs.Ytegmbdkdgpeahaa
