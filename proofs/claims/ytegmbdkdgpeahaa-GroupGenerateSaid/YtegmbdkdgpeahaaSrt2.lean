/- The contract of insertionSortCmpFunc over slices of ints. -/
import Derived.Test.YtegmbdkdgpeahaaSrt1
namespace Go.Proofs.Ytegmbdkdgpeahaa
open Go Go.RowKit

/-- what a sort of the part from a to b leaves -/
def SrtPost (w : World) (base g n c : Nat) (ps : List (List Int)) (a b : Nat) (e : Ending) (w' : World) : Prop :=
  e = .returned (.tuple #[]) ∧ ∃ ps', Srt w' base g n c ps' ∧ movedOn ps ps' a b ∧ ordOn ps' a b ∧ w.grownBy w' (some g)

theorem grown_refl (w : World) (row : Option Nat) : w.grownBy w row := World.grownBy.refl w row
theorem grown_trans {a b c : World} {row : Option Nat} (h : a.grownBy b row) (k : b.grownBy c row) : a.grownBy c row :=
  ⟨k.os.trans h.os, k.tape.trans h.tape, k.output.trans h.output, Nat.le_trans h.size k.size, fun i hi hne => (k.block i (Nat.lt_of_lt_of_le hi h.size) hne).trans (h.block i hi hne)⟩
theorem grown_qt {a b c : World} {row : Option Nat} (h : a.grownBy b row) (k : Qt b c) : a.grownBy c row := by
  obtain ⟨n, rfl⟩ := k
  exact ⟨h.os, h.tape, h.output, h.size, h.block⟩

def cmpF : Value := .func (.func 37) #[] #[]

set_option maxHeartbeats 1000000 in
theorem insertionSort {base g n c a b : Nat} {ps : List (List Int)} {w : World} (hS : Srt w base g n c ps) (hab : a ≤ b) (hbn : b ≤ n) (hn6 : n ≤ 1000000) :
    Calls Try.prog 56 #[.slice (some ⟨g, 0, none⟩) n c, .int .i64 a, .int .i64 b, .func (.func 37) #[] #[]] w (SrtPost w base g n c ps a b) := by
  have hnn := hS.le
  go_enter Try.func56, Try.ntmps56
  go_wp2
  go_loopw [8] (fun v wr => ∃ i : Nat, ∃ ps', v = .int .i64 i ∧ a + 1 ≤ i ∧ (i ≤ b ∨ i = a + 1) ∧ Srt wr base g n c ps' ∧ movedOn ps ps' a b ∧ ordOn ps' a i ∧ w.grownBy wr (some g)) (fun v _ => b - (intOf v).toNat)
  case atStart => exact ⟨a + 1, ps, by go_num, Nat.le_refl _, Or.inr rfl, hS, movedOn.refl _ _ _, fun x y h1 h2 h3 => by omega, grown_refl _ _⟩
  case round =>
    obtain ⟨i, ps1, rfl, hi1, hi2, hS1, hm1, ho1, hg1⟩ := hrel
    by_cases hib : i < b
    · go_wp2
      obtain ⟨wo, rfl⟩ : ∃ wo : World, wo = wr := ⟨_, rfl⟩
      go_loopw [9] (fun v wr => ∃ j : Nat, ∃ ps', v = .int .i64 j ∧ a ≤ j ∧ j ≤ i ∧ Srt wr base g n c ps' ∧ movedOn ps ps' a b ∧ InsI ps' a j i ∧ w.grownBy wr (some g)) (fun v _ => (intOf v).toNat)
      case atStart => exact ⟨i, ps1, rfl, by omega, Nat.le_refl _, hS1, hm1, InsI.start ho1, hg1⟩
      case round =>
        clear hS1 hm1 ho1 hg1
        obtain ⟨j, ps2, rfl, hj1, hj2, hS2, hm2, hI2, hg2⟩ := hrel
        by_cases hja : a < j
        · obtain ⟨a1, n1, c1, k1, s1, f1⟩ := hS2.at (k := j) (by omega)
          obtain ⟨a2, n2, c2, k2, s2, f2⟩ := hS2.at (k := j - 1) (by omega)
          have hl2 := hS2.len
          have hstep := hI2.step hja hj2 (by omega)
          have hstop := hI2.stop hj1 hj2
          have hsw := hS2.swap (i := j) (j := j - 1) (by omega) (by omega) k1 k2
          have hmv := hm2.swap (i := j) (j := j - 1) (by omega) (by omega) (by omega) (by omega) (by omega) (by omega)
          have STEP := Lib.hid hstep
          have STOP := Lib.hid hstop
          have SW := Lib.hid hsw
          have MV := Lib.hid hmv
          clear hstep hstop hsw hmv hl2
          obtain ⟨j', rfl⟩ : ∃ j', j = j' + 1 := ⟨j - 1, by omega⟩
          simp only [Nat.add_sub_cancel] at k2 f2 s2 STEP STOP SW MV
          generalize hx : ps2.getD (j' + 1) [] = x at *
          generalize hy : ps2.getD j' [] = y at *
          clear hx hy
          have hja' : decide ((a : Int) < (j' : Int) + 1) = true := by simp; omega
          have hw1 : IntKind.i64.wrap ((j' : Int) + 1 - 1) = j' := by rw [Int.add_sub_cancel]; exact IntWalk.i64_in _ (by omega)
          have hw2 : IntKind.i64.wrap (j' : Int) = j' := IntWalk.i64_in _ (by omega)
          by_cases hc : cmpL x y < 0
          · go_wp2_with fail
            go_quiet ((exact Calls.quiet_of (slices_Compare (s1.ext ((Ext.refl _).drewN _)) (s2.ext ((Ext.refl _).drewN _)))))
            clear hja' hw1 hw2 s1 s2
            go_wp2
            go_region
            go_wp2
            go_roundw
            case rel => exact ⟨j', swapL ps2 (j' + 1) j', by go_num, by omega, by omega, SW.out.1.qt ⟨_, rfl⟩, MV.out, STEP.out hc, grown_trans hg2 (grown_qt SW.out.2 ⟨_, rfl⟩)⟩
            case measure => simp [intOf]
          · go_wp2_with fail
            go_quiet ((exact Calls.quiet_of (slices_Compare (s1.ext ((Ext.refl _).drewN _)) (s2.ext ((Ext.refl _).drewN _)))))
            clear hja' hw1 hw2 s1 s2
            go_wp2
            go_roundw
            case rel => exact ⟨i + 1, ps2, by go_num, by omega, by omega, hS2.qt ⟨_, rfl⟩, hm2, STOP.out (Or.inr ⟨by omega, hc⟩), grown_qt hg2 ⟨_, rfl⟩⟩
            case measure => simp [intOf]; omega
        · have hja' : decide ((a : Int) < (j : Int)) = false := by simp; omega
          go_wp2_with fail
          go_quiet (fail)
          go_wp2
          go_roundw
          case rel => exact ⟨i + 1, ps2, by go_num, by omega, by omega, hS2.qt ⟨_, rfl⟩, hm2, hI2.stop hj1 hj2 (Or.inl (by omega)), grown_qt hg2 ⟨_, rfl⟩⟩
          case measure => simp [intOf]; omega
    · go_wp2
      go_end0
      refine ⟨rfl, ps1, hS1, hm1, ?_, hg1⟩
      intro x y h1 h2 h3
      exact ho1 x y h1 h2 (by omega)

end Go.Proofs.Ytegmbdkdgpeahaa
