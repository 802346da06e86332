/- The contract of the law's made: a group in strict order. -/
import Derived.Test.YtegmbdkdgpeahaaIsg3
import Derived.Test.YtegmbdkdgpeahaaLawG
namespace Go.Proofs.Ytegmbdkdgpeahaa
open Go Go.RowKit

theorem mod4 (n : Int) : ∃ m : Nat, n % 4 = (m : Int) ∧ m ≤ 3 := ⟨(n % 4).toNat, by omega, by omega⟩

set_option maxHeartbeats 1000000 in
theorem law_made {a b : Option Addr} {na nb ca cb : Nat} {xs ys : List Int} {n : Int} {w : World} (hx : SlI w a na ca xs) (hy : SlI w b nb cb ys) :
    Calls Try.prog 28 #[.int .i64 n, .slice a na ca, .slice b nb cb] w (fun e w' => ∃ ps a' n' c' cells, ∃ m : Nat, e = .returned (.tuple #[.slice a' n' c', .int .i64 m]) ∧ Ext w w' ∧ n' = ps.length ∧ n' ≤ 720 ∧ Own w' w.heap.size 22 a' n' c' cells ∧ QEl w' w.heap.size cells ps ∧ 1 ≤ m ∧ m ≤ 4) := by
  obtain ⟨m, hm, hm3⟩ := mod4 n
  have HM := Lib.hid hm
  clear hm
  go_enter Try.func28, Try.ntmps28
  go_wp2_with fail
  refine (keep_Mod (by omega) (by omega)).mono ?_
  rintro e w1 ⟨rfl, rfl⟩
  rw [HM.out]
  go_wp2_with fail
  obtain ⟨q, hq⟩ : ∃ q : Nat, (m : Int) + 1 = q := ⟨m + 1, by omega⟩
  have hq4 : q ≤ 4 := by omega
  have hq1 : 1 ≤ q := by omega
  rw [hq]
  clear hq hm3 HM
  refine (permutation_ok hx (by omega)).mono ?_
  rintro e w2 ⟨a2, c2, p, rfl, hE2, hp, pp, pl⟩
  have PL := Lib.hid pl
  clear pl
  go_wp2_with fail
  refine (permutation_ok (hy.ext hE2) (by omega)).mono ?_
  rintro e w3 ⟨a3, c3, p3, rfl, hE3, hp3, pp3, pl3⟩
  have PL3 := Lib.hid pl3
  clear pl3
  have s1 := lit_slL (w := w3) (cs := #[.slice a2 q c2, .slice a3 q c3]) (xss := [p, p3]) (n := 2) rfl (by omega) rfl (by
      intro i hi
      have : i = 0 ∨ i = 1 := by omega
      rcases this with rfl | rfl
      · exact ⟨_, _, _, rfl, hp.ext hE3⟩
      · exact ⟨_, _, _, rfl, hp3⟩)
  have hA : Ext w3 (w3.alloc (.cells #[.slice a2 q c2, .slice a3 q c3] 22)) := (Ext.refl w3).alloc _
  have hpn : PermsN [p, p3] q := by
    intro g hg
    simp only [List.mem_cons, List.not_mem_nil, or_false] at hg
    rcases hg with rfl | rfl
    · exact ⟨pp, PL.out⟩
    · exact ⟨pp3, PL3.out⟩
  have HPN := Lib.hid hpn
  clear hpn
  go_wp2_with fail
  refine (ref_Closure s1 (by omega) HPN.out).mono ?_
  rintro e w4 ⟨ps, ⟨a4, n4, c4, cells, rfl, hE4, hn4, hO4, hQ4⟩, hso, hre⟩
  have hb := reach_bound (by omega) HPN.out hso.nodup (fun p hp => (hre p).1 hp)
  have HN4 := Lib.hid hn4
  clear hn4
  have hEE := ((hE2.trans hE3).trans hA)
  go_wp2
  go_ret2
  refine ⟨ps, a4, n4, c4, cells, q, rfl, hEE.trans hE4, HN4.out, by have := HN4.out; omega, Own.mono hO4 hEE.size, ?_, hq1, hq4⟩
  intro i hi
  obtain ⟨a', n', c', h1, h2⟩ := hQ4 i hi
  exact ⟨a', n', c', h1, Own.mono h2 hEE.size⟩

end Go.Proofs.Ytegmbdkdgpeahaa
