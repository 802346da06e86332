/- The contracts of package group: identity, compose, Valid. -/
import Derived.Test.YtegmbdkdgpeahaaProg
import Derived.Test.YtegmbdkdgpeahaaLaws
import Derived.Deep.QuietTactic
import Derived.BigQuiet
namespace Go.Proofs.Ytegmbdkdgpeahaa
open Go Go.RowKit

theorem info_int : Elem1 Try.prog 3 (.int .i64 0) 8 := by unfold Elem1; kernel_rfl

/-- A slice of ints of the call's own. -/
def OwnI (w : World) (base : Nat) (a : Option Addr) (n c : Nat) (xs : List Int) : Prop := Own w base 3 a n c (xs.map (Value.int .i64))
theorem OwnI.sl {w : World} {base : Nat} {a : Option Addr} {n c : Nat} {xs : List Int} (h : OwnI w base a n c xs) : SlI w a n c xs := Own.sl h
theorem OwnI.ext {w w' : World} {base : Nat} {a : Option Addr} {n c : Nat} {xs : List Int} (h : OwnI w base a n c xs) (k : Ext w w') : OwnI w' base a n c xs := Own.ext h k

/-- returns a new slice of ints -/
def RetI (w : World) (xs : List Int) (e : Ending) (w' : World) : Prop :=
  ∃ a n c, e = .returned (.slice a n c) ∧ Ext w w' ∧ OwnI w' w.heap.size a n c xs

theorem set_fill {α : Type} (L : List α) (z v : α) (r : Nat) : (L ++ List.replicate (r + 1) z).set L.length v = (L ++ [v]) ++ List.replicate r z := by
  rw [List.set_append_right _ _ (Nat.le_refl _)]
  simp [List.replicate_succ]

def idn (n : Nat) : List Int := (List.range n).map Int.ofNat
def comp (xs ys : List Int) : List Int := ys.map (fun y => xs.getD y.toNat 0)

theorem idn_len (n : Nat) : (idn n).length = n := by simp [idn]
theorem idn_succ (n : Nat) : idn (n + 1) = idn n ++ [(n : Int)] := by simp [idn, List.range_succ]
theorem comp_len (xs ys : List Int) : (comp xs ys).length = ys.length := by simp [comp]

/-- a slice under construction: the first part is written, the rest is zero -/
def fillI (n : Nat) (xs : List Int) : List Int := xs ++ List.replicate (n - xs.length) 0
theorem fillI_nil (n : Nat) : (fillI n []).map (Value.int .i64) = List.replicate n (Value.int .i64 0) := by simp [fillI]
theorem fillI_full {n : Nat} {xs : List Int} (h : n ≤ xs.length) : fillI n xs = xs := by simp [fillI, Nat.sub_eq_zero_of_le h]
theorem fillI_set {n k : Nat} {xs : List Int} (hk : xs.length = k) (h : k < n) (x : Int) :
    ((fillI n xs).map (Value.int .i64)).set k (Value.int .i64 x) = (fillI n (xs ++ [x])).map (Value.int .i64) := by
  have e : n - xs.length = (n - (xs ++ [x]).length) + 1 := by simp; omega
  rw [← List.map_set, ← hk]
  unfold fillI
  rw [e, set_fill]

set_option maxHeartbeats 400000 in
theorem group_identity {n : Nat} {w : World} (hn : n ≤ 1000000) :
    Calls Try.prog 32 #[.int .i64 n] w (RetI w (idn n)) := by
  go_enter Try.func32, Try.ntmps32
  go_wp2_with (at_make; refine wl_mk rfl rfl Try.underlying22 info_int rfl rfl rfl (by omega) (by unfold maxLen; omega) ?_; intro w1 hO1 hE1)
  go_loopw [9] (fun i wr => ∃ k : Nat, k ≤ n ∧ i = .int .i64 k ∧ Ext w wr ∧ OwnI wr w.heap.size (some ⟨w.heap.size, 0, none⟩) n n (fillI n (idn k))) (fun i _ => n - (intOf i).toNat)
  case atStart => exact ⟨0, Nat.zero_le _, rfl, hE1, by unfold OwnI; rw [show idn 0 = [] from rfl, fillI_nil]; exact hO1⟩
  case round =>
    clear hO1 hE1
    obtain ⟨k, hk, rfl, hE, hO⟩ := hrel
    by_cases hlt : k < n
    · have g1 := Own.cellAt hO hlt
      have g2 := Own.frozenAt hO k
      have hz := hE.size
      go_wp2
      go_roundw
      case rel =>
        refine ⟨k+1, by omega, by go_num, hE.setCell (Nat.le_refl _) _, ?_⟩
        have := Own.stored hO k (.int .i64 k)
        rw [fillI_set (idn_len k) hlt, ← idn_succ] at this
        exact this
      case measure => simp [intOf]; omega
    · have e : k = n := by omega
      go_wp2
      go_ret
      subst e
      rw [fillI_full (by rw [idn_len]; exact Nat.le_refl _)] at hO
      exact ⟨_, _, _, rfl, hE, hO⟩

set_option maxHeartbeats 400000 in
theorem group_compose {a b : Option Addr} {n c m d : Nat} {xs ys : List Int} {w : World} (hx : SlI w a n c xs) (hy : SlI w b m d ys)
    (hin : ∀ i, i < m → 0 ≤ ys.getD i 0 ∧ ys.getD i 0 < n) (hm : m ≤ 1000000) :
    Calls Try.prog 31 #[.slice a n c, .slice b m d] w (RetI w (comp xs ys)) := by
  have hnn := hx.le
  go_enter Try.func31, Try.ntmps31
  go_wp2_with (at_make; refine wl_mk rfl rfl Try.underlying22 info_int rfl rfl rfl (by omega) (by unfold maxLen; omega) ?_; intro w1 hO1 hE1)
  go_loopw [13] (fun i wr => ∃ k : Nat, k ≤ m ∧ i = .int .i64 k ∧ Ext w wr ∧ OwnI wr w.heap.size (some ⟨w.heap.size, 0, none⟩) m m (fillI m (comp xs (ys.take k)))) (fun i _ => m - (intOf i).toNat)
  case atStart => exact ⟨0, Nat.zero_le _, rfl, hE1, by unfold OwnI; rw [show comp xs (ys.take 0) = [] from rfl, fillI_nil]; exact hO1⟩
  case round =>
    clear hO1 hE1
    obtain ⟨k, hk, rfl, hE, hO⟩ := hrel
    have hx := hx.ext hE
    have hy := hy.ext hE
    by_cases hlt : k < m
    · have g1 := Own.cellAt hO hlt
      have g2 := Own.frozenAt hO k
      have hz := hE.size
      obtain ⟨b2, o2, rfl, hc2⟩ := hy.at hlt
      have g3 := hc2 k hlt
      have hik := hin k hlt
      have hyl := hy.len
      have ek : ys.take (k + 1) = ys.take k ++ [ys.getD k 0] := by
        rw [List.take_succ_eq_append_getElem (by omega)]
        simp [List.getD_eq_getElem?_getD, hyl, hlt]
      generalize hyk : ys.getD k 0 = y at *
      obtain ⟨b1, o1, rfl, hc1⟩ := hx.at (k := y.toNat) (by omega)
      have g4 := hc1 y.toNat (by omega)
      obtain ⟨y0, y1⟩ := hik
      have EK := Lib.hid ek
      clear hc1 hc2 hyk hin hyl ek
      go_wp2
      go_roundw
      case rel =>
        refine ⟨k+1, by omega, by go_num, hE.setCell (Nat.le_refl _) _, ?_⟩
        have := Own.stored hO k (.int .i64 (xs.getD y.toNat 0))
        rw [fillI_set (by rw [comp_len]; have := hy.len; simp; omega) hlt] at this
        rw [EK.out]
        simpa [comp, OwnI] using this
      case measure => simp [intOf]; omega
    · have e : k = m := by omega
      go_wp2
      go_ret
      subst e
      have hyl := hy.len
      rw [List.take_of_length_le (by omega), fillI_full (by rw [comp_len]; omega)] at hO
      exact ⟨_, _, _, rfl, hE, hO⟩

end Go.Proofs.Ytegmbdkdgpeahaa
