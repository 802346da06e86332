/- The contract of the program's move on keys. -/
import Derived.Test.YtegmbdkdgpeahaaOrb1
import Derived.Test.YtegmbdkdgpeahaaClo1
namespace Go.Proofs.Ytegmbdkdgpeahaa
open Go Go.RowKit

/-- six cells, some of them written -/
def mv6 (a m : List Int) (k : Nat) : List Int := pad6 (mvTo a m k)
theorem mv6_set {a m : List Int} {k : Nat} (hp : permB a = true) (hl : m.length = a.length) (hk : k < a.length) : (mv6 a m k).set (a.getD k 0).toNat (m.getD k 0) = mv6 a m (k + 1) := by
  have h0 := perm_at hp hk
  unfold mv6 pad6
  rw [show mvTo a m (k + 1) = (mvTo a m k).set (a.getD k 0).toNat (m.getD k 0) from rfl, List.length_set, List.set_append_left _ _ (by rw [mvTo_len]; omega)]
theorem mv6_zero {a m : List Int} (h : m.length ≤ 6) : (mv6 a m 0).map (Value.int .i64) = zero6 := by
  unfold mv6 pad6 zero6 mvTo
  rw [List.length_replicate, List.replicate_append_replicate, List.map_replicate, Nat.add_sub_cancel' h]
theorem mv6_len {a m : List Int} {k : Nat} (h : m.length ≤ 6) : (mv6 a m k).length = 6 := pad6_len (by rw [mvTo_len]; exact h)
theorem ints_getD {l : List Int} {i : Nat} (h : i < l.length) : (l.map (Value.int .i64)).getD i undef = .int .i64 (l.getD i 0) := by
  simp [List.getD_eq_getElem?_getD, h]
theorem pad6_getD {l : List Int} {i : Nat} (h : i < l.length) : (pad6 l).getD i 0 = l.getD i 0 := by
  unfold pad6
  simp [List.getD_eq_getElem?_getD, List.getElem?_append_left h]

set_option maxHeartbeats 400000 in
theorem group_move {a : Option Addr} {n c : Nat} {xs m : List Int} {w : World} (hx : SlI w a n c xs) (p1 : permB xs = true) (hm : m.length = n) :
    Calls Try.prog 51 #[.slice a n c, keyV (pad6 m)] w fun e w' => e = .returned (keyV (pad6 (mvd xs m))) ∧ Ext w w' := by
  have HX := Lib.hid hx.len
  have h6 : n ≤ 6 := by have := (perm_spec p1).1; have h := HX.out; omega
  go_enter Try.func51, Try.ntmps51
  go_upto_region 2 with (fail)
  have hm6 : (pad6 m).length = 6 := pad6_len (by omega)
  have hwd : (((w.alloc (.cells ((pad6 m).map (Value.int .i64)).toArray 57)).alloc (.cells zero6.toArray 57)).alloc (.cells zero6.toArray 57)).heap.size = w.heap.size + 3 := by simp
  have hB : Arr (((w.alloc (.cells ((pad6 m).map (Value.int .i64)).toArray 57)).alloc (.cells zero6.toArray 57)).alloc (.cells zero6.toArray 57)) w.heap.size 57 ((pad6 m).map (Value.int .i64)) := ((Arr.new w _ _).alloc _).alloc _
  have hR : Arr (((w.alloc (.cells ((pad6 m).map (Value.int .i64)).toArray 57)).alloc (.cells zero6.toArray 57)).alloc (.cells zero6.toArray 57)) (w.heap.size + 1) 57 zero6 := by
    have := (Arr.new (w.alloc (.cells ((pad6 m).map (Value.int .i64)).toArray 57)) 57 zero6).alloc (.cells zero6.toArray 57)
    simpa using this
  have hK : Arr (((w.alloc (.cells ((pad6 m).map (Value.int .i64)).toArray 57)).alloc (.cells zero6.toArray 57)).alloc (.cells zero6.toArray 57)) (w.heap.size + 2) 57 zero6 := by
    have := Arr.new ((w.alloc (.cells ((pad6 m).map (Value.int .i64)).toArray 57)).alloc (.cells zero6.toArray 57)) 57 zero6
    simpa using this
  have hE : Ext w (((w.alloc (.cells ((pad6 m).map (Value.int .i64)).toArray 57)).alloc (.cells zero6.toArray 57)).alloc (.cells zero6.toArray 57)) := (((Ext.refl w).alloc _).alloc _).alloc _
  change Code.wp _ _ _ _ (((w.alloc (.cells ((pad6 m).map (Value.int .i64)).toArray 57)).alloc (.cells zero6.toArray 57)).alloc (.cells zero6.toArray 57))
  generalize (((w.alloc (.cells ((pad6 m).map (Value.int .i64)).toArray 57)).alloc (.cells zero6.toArray 57)).alloc (.cells zero6.toArray 57)) = w0 at *
  have HM := Lib.hid hm
  clear hm
  go_wp2
  go_loopw [10] (fun i wr => ∃ k : Nat, k ≤ n ∧ i = .int .i64 k ∧ Ext w wr ∧ Arr wr w.heap.size 57 ((pad6 m).map (Value.int .i64)) ∧ Arr wr (w.heap.size + 1) 57 zero6 ∧ Arr wr (w.heap.size + 2) 57 ((mv6 xs m k).map (Value.int .i64))) (fun i _ => n - (intOf i).toNat)
  case atStart => exact ⟨0, Nat.zero_le _, rfl, hE, hB, hR, by rw [mv6_zero (by rw [HM.out]; exact h6)]; exact hK⟩
  case round =>
    clear hB hR hK hE hwd
    obtain ⟨k, hk, rfl, hE, hB, hR, hK⟩ := hrel
    have hx := hx.ext hE
    by_cases hlt : k < n
    · obtain ⟨b2, o2, rfl, hc2⟩ := hx.at hlt
      have g3 := hc2 k hlt
      have hik := perm_at p1 (i := k) (by have := HX.out; omega)
      rw [HX.out] at hik
      have e1 := mv6_set (a := xs) (m := m) (k := k) p1 (by rw [HM.out, HX.out]) (by rw [HX.out]; exact hlt)
      have gB := hB.cell (i := k) (by rw [List.length_map, hm6]; omega)
      rw [ints_getD (by rw [hm6]; omega), pad6_getD (by rw [HM.out]; exact hlt)] at gB
      generalize hyk : xs.getD k 0 = y at *
      generalize hzk : m.getD k 0 = z at *
      obtain ⟨y0, y1⟩ := hik
      have g1 := hK.cell (i := y.toNat) (by rw [List.length_map, mv6_len (by rw [HM.out]; exact h6)]; omega)
      have g2 := hK.frozen y.toNat
      have EK := Lib.hid e1
      have hk6 : (k : Int) < 6 := by omega
      have hy6 : y < 6 := by omega
      clear hc2 hyk hzk e1
      go_wp2
      go_roundw
      case rel =>
        refine ⟨k + 1, by omega, by go_num, Ext.setCell hE (by show _ ≤ w.heap.size + 2; omega) _, hB.far (by show _ ≠ w.heap.size + 2; omega) _, hR.far (by show _ ≠ w.heap.size + 2; omega) _, ?_⟩
        have := hK.set y.toNat (.int .i64 z)
        rw [← List.map_set, EK.out] at this
        exact this
      case measure => simp [intOf]; omega
    · have e : k = n := by omega
      have hAg : Agg Try.prog 57 ((mv6 xs m k).map (Value.int .i64)).length := by
        rw [List.length_map, mv6_len (by rw [HM.out]; exact h6)]
        exact agg_key
      have HZ6 : Hid (zero6.length = ((mv6 xs m k).map (Value.int .i64)).length) := by
        show _ = _
        rw [List.length_map, mv6_len (by rw [HM.out]; exact h6)]
        rfl
      have HF : Hid (pad6 (mvd xs m) = mv6 xs m k) := by
        show _ = _
        unfold mv6 mvd
        rw [HM.out, e]
      clear e
      go_wp2_with (first
        | (refine wl_ldArr rfl rfl hAg rfl hK ?_)
        | (refine wl_stArr rfl rfl rfl rfl rfl hAg hR HZ6.out (ints_one _) ?_; intro w2 hB2 hg2))
      rw [HF.out]
      refine bodyPost_ret (v := keyV (mv6 xs m k)) ?_ rfl ⟨rfl, hE.grown hg2 ?_⟩
      · exact res_arr rfl hAg rfl hB2
      · intro k hk
        simp at hk
        omega

end Go.Proofs.Ytegmbdkdgpeahaa
