/- The contract of keyOf; plain facts about the closure of a set of permutations. -/
import Derived.Test.YtegmbdkdgpeahaaOrd
import Derived.Test.YtegmbdkdgpeahaaMap
import Derived.Test.YtegmbdkdgpeahaaQueue
namespace Go.Proofs.Ytegmbdkdgpeahaa
open Go Go.RowKit

def pad6 (l : List Int) : List Int := l ++ List.replicate (6 - l.length) 0
theorem pad6_len {l : List Int} (h : l.length ≤ 6) : (pad6 l).length = 6 := by simp [pad6]; omega
theorem pad6_inj {l k : List Int} (h : l.length = k.length) (e : pad6 l = pad6 k) : l = k := by
  have := congrArg (List.take l.length) e
  simpa [pad6, h] using this
theorem pad6_take (l : List Int) : (pad6 l).take l.length = l := by simp [pad6]

theorem agg_key : Agg Try.prog 57 6 := ⟨by kernel_rfl, by kernel_rfl⟩
theorem keyT_key : KeyT Try.prog 57 3 := ⟨by kernel_rfl, by kernel_rfl, by kernel_rfl⟩

def zero6 : List Value := List.replicate 6 (.int .i64 0)

set_option maxHeartbeats 400000 in
theorem group_keyOf {a : Option Addr} {n c : Nat} {xs : List Int} {w : World} (hx : SlI w a n c xs) (h6 : n ≤ 6) :
    Calls Try.prog 38 #[.slice a n c] w fun e w' => e = .returned (keyV (pad6 xs)) ∧ Ext w w' := by
  have hl := hx.len
  have HL := Lib.hid hl
  clear hl
  go_enter Try.func38, Try.ntmps38
  go_upto_region 2 with (fail)
  have hA0 : Arr ((w.alloc (.cells zero6.toArray 57)).alloc (.cells zero6.toArray 57)) w.heap.size 57 zero6 := (Arr.new w _ zero6).alloc _
  have hA1 : Arr ((w.alloc (.cells zero6.toArray 57)).alloc (.cells zero6.toArray 57)) (w.heap.size + 1) 57 zero6 := by
    have := Arr.new (w.alloc (.cells zero6.toArray 57)) 57 zero6
    simpa using this
  have hE : Ext w ((w.alloc (.cells zero6.toArray 57)).alloc (.cells zero6.toArray 57)) := ((Ext.refl w).alloc _).alloc _
  change Code.wp _ _ _ _ ((w.alloc (.cells zero6.toArray 57)).alloc (.cells zero6.toArray 57))
  generalize ((w.alloc (.cells zero6.toArray 57)).alloc (.cells zero6.toArray 57)) = w0 at *
  have HZ : Hid (zero6.take 0 ++ xs.map (Value.int .i64) ++ zero6.drop (0 + n) = (pad6 xs).map (Value.int .i64)) := by
    have e : xs.length = n := HL.out
    show _ = _
    rw [List.take_zero, List.nil_append, Nat.zero_add]
    unfold pad6 zero6
    rw [List.map_append, List.map_replicate, List.drop_replicate, e]
  have hAg : Agg Try.prog 57 ((pad6 xs).map (Value.int .i64)).length := by
    rw [List.length_map, pad6_len (by rw [HL.out]; exact h6)]
    exact agg_key
  have hz6 : zero6.length = ((pad6 xs).map (Value.int .i64)).length := by
    rw [List.length_map, pad6_len (by rw [HL.out]; exact h6)]
    rfl
  have HZ6 := Lib.hid hz6
  clear hz6
  go_wp2_with (first
    | (refine wl_cp (sT := 22) rfl rfl Try.underlying22 info_int rfl rfl hA1 (hx.ext hE) (by omega) (by simp [zero6]; omega) (ints_one _) ?_; intro w1 hB1 hg1; rw [HZ.out] at hB1; have hA0' := hA0.kept hg1 (by simp))
    | (refine wl_ldArr rfl rfl hAg rfl hB1 ?_)
    | (refine wl_stArr rfl rfl rfl rfl rfl hAg hA0' HZ6.out (ints_one _) ?_; intro w2 hB2 hg2))
  refine bodyPost_ret (v := keyV (pad6 xs)) ?_ rfl ⟨rfl, (hE.grown hg1 ?_).grown hg2 ?_⟩
  · exact res_arr rfl hAg rfl hB2
  · intro k hk
    simp at hk
    omega
  · intro k hk
    simp at hk
    omega

end Go.Proofs.Ytegmbdkdgpeahaa
