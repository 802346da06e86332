/- The contract of the program's representative: the least of the monomials to which a group moves one. -/
import Derived.Test.YtegmbdkdgpeahaaMove
import Derived.Test.YtegmbdkdgpeahaaIsg3
namespace Go.Proofs.Ytegmbdkdgpeahaa
open Go Go.RowKit

theorem cmpL_app : ∀ (x y z : List Int), x.length = y.length → cmpL (x ++ z) (y ++ z) = cmpL x y
  | [], [], z, _ => by simp [cmpL_self, cmpL]
  | [], _ :: _, _, h => by simp at h
  | _ :: _, [], _, h => by simp at h
  | a :: x, b :: y, z, h => by
    simp only [List.length_cons, Nat.add_right_cancel_iff] at h
    simp only [List.cons_append, cmpL, cmpL_app x y z h]
theorem cmpL_pad6 {x y : List Int} (h : x.length = y.length) : cmpL (pad6 x) (pad6 y) = cmpL x y := by
  unfold pad6
  rw [h]
  exact cmpL_app x y _ h

/-- the least after k elements -/
def repTo (gs : List (List Int)) (m : List Int) : Nat → List Int
  | 0 => m
  | k + 1 => if cmpL (mvd (gs.getD k []) m) (repTo gs m k) < 0 then mvd (gs.getD k []) m else repTo gs m k
def repS (gs : List (List Int)) (m : List Int) : List Int := repTo gs m gs.length
theorem repTo_len (gs : List (List Int)) (m : List Int) : ∀ k, (repTo gs m k).length = m.length
  | 0 => rfl
  | k + 1 => by
    unfold repTo
    split
    · rw [mvd, mvTo_len]
    · exact repTo_len gs m k

theorem run_slice_all {w : World} {g : Nat} : (Instr.sliceAt 57 (.pointer (some ⟨g, 0, none⟩)) none none none).run Try.prog w = .ok (.slice (some ⟨g, 0, none⟩) 6 6) w := by
  obtain ⟨i, hi, hz, hsize, hby⟩ := info_parts info_int
  have ht : Try.prog.underlying 57 = some (.array 6 3) := keyT_key.arr
  simp [Instr.sliceAt, Instr.sliceBounds, run_underlying ht, sizeOf, typeInfo, hi, Instr.sureAddr, Addr.add]

theorem Arr.slI {w : World} {g : Nat} {t : TypeId} {xs : List Int} (h : Arr w g t (xs.map (Value.int .i64))) (h6 : xs.length = 6) : SlI w (some ⟨g, 0, none⟩) 6 6 xs := by
  have := h.sl (k := 6) (by simp [h6]) (by simp [h6, maxLen])
  rw [List.length_map, h6, List.take_of_length_le (by simp [h6])] at this
  exact this

set_option maxHeartbeats 1000000 in
theorem group_representative {a : Option Addr} {q c n : Nat} {gs : List (List Int)} {m : List Int} {w : World} (hx : SlL w a q c gs) (hp : PermsN gs n) (hm : m.length = n) (hn6 : n ≤ 6) :
    Calls Try.prog 44 #[.slice a q c, keyV (pad6 m)] w fun e w' => e = .returned (keyV (pad6 (repS gs m))) ∧ Ext w w' := by
  have HX := Lib.hid hx.len
  have hqq := hx.le
  have HM := Lib.hid hm
  have HP := Lib.hid hp
  have hm6 : (pad6 m).length = 6 := pad6_len (by omega)
  have hAm : Agg Try.prog 57 ((pad6 m).map (Value.int .i64)).length := by
    rw [List.length_map, hm6]
    exact agg_key
  have HZm : Hid (zero6.length = ((pad6 m).map (Value.int .i64)).length) := by
    show _ = _
    rw [List.length_map, hm6]
    rfl
  clear hm hp
  go_enter Try.func44, Try.ntmps44
  go_upto_region 1 with (fail)
  have hB : Arr ((w.alloc (.cells ((pad6 m).map (Value.int .i64)).toArray 57)).alloc (.cells zero6.toArray 57)) w.heap.size 57 ((pad6 m).map (Value.int .i64)) := (Arr.new w _ _).alloc _
  have hR : Arr ((w.alloc (.cells ((pad6 m).map (Value.int .i64)).toArray 57)).alloc (.cells zero6.toArray 57)) (w.heap.size + 1) 57 zero6 := by
    have := Arr.new (w.alloc (.cells ((pad6 m).map (Value.int .i64)).toArray 57)) 57 zero6
    simpa using this
  have hE : Ext w ((w.alloc (.cells ((pad6 m).map (Value.int .i64)).toArray 57)).alloc (.cells zero6.toArray 57)) := ((Ext.refl w).alloc _).alloc _
  have hsz : ((w.alloc (.cells ((pad6 m).map (Value.int .i64)).toArray 57)).alloc (.cells zero6.toArray 57)).heap.size = w.heap.size + 2 := by simp
  change Code.wp _ _ _ _ ((w.alloc (.cells ((pad6 m).map (Value.int .i64)).toArray 57)).alloc (.cells zero6.toArray 57))
  generalize ((w.alloc (.cells ((pad6 m).map (Value.int .i64)).toArray 57)).alloc (.cells zero6.toArray 57)) = w0 at *
  have HSZ := Lib.hid hsz
  clear hsz
  have hL0 : Arr (w0.alloc (.cells zero6.toArray 57)) w0.heap.size 57 zero6 := Arr.new w0 _ _
  go_wp2_with (first
    | (refine wl_ldArr rfl rfl hAm rfl hB ?_)
    | (refine wl_stArr rfl rfl rfl rfl rfl hAm hL0 HZm.out (ints_one _) ?_; intro w1 hL1 hg1))
  have hE1 : Ext w w1 := (hE.alloc _).grown hg1 (by intro k hk; simp at hk; have := HSZ.out; omega)
  have hB1 := (hB.alloc (.cells zero6.toArray 57)).kept hg1 (by have := HSZ.out; simp; omega)
  have hR1 := (hR.alloc (.cells zero6.toArray 57)).kept hg1 (by have := HSZ.out; simp; omega)
  have hlB : w.heap.size < w0.heap.size := by have := HSZ.out; omega
  have hlR : w.heap.size + 1 < w0.heap.size := by have := HSZ.out; omega
  generalize w0.heap.size = L0 at *
  clear hB hR hE hL0 hg1
  go_loopw [12] (fun i wr => ∃ k : Nat, k ≤ q ∧ i = .int .i64 k ∧ Ext w wr ∧ Arr wr w.heap.size 57 ((pad6 m).map (Value.int .i64)) ∧ Arr wr (w.heap.size + 1) 57 zero6 ∧ Arr wr L0 57 ((pad6 (repTo gs m k)).map (Value.int .i64))) (fun i _ => q - (intOf i).toNat)
  case atStart => exact ⟨0, Nat.zero_le _, rfl, hE1, hB1, hR1, hL1⟩
  case round =>
    clear hB1 hR1 hL1 hE1
    obtain ⟨k, hk, rfl, hE, hB, hR, hL⟩ := hrel
    have hx := hx.ext hE
    have hr6 : (pad6 (repTo gs m k)).length = 6 := pad6_len (by rw [repTo_len, HM.out]; exact hn6)
    have hAr : Agg Try.prog 57 ((pad6 (repTo gs m k)).map (Value.int .i64)).length := by
      rw [List.length_map, hr6]
      exact agg_key
    by_cases hlt : k < q
    · obtain ⟨b2, o2, a2, n2, c2, rfl, g2, s2⟩ := hx.at hlt
      have hpk := HP.out _ (getD_mem (l := gs) (i := k) (by rw [HX.out]; exact hlt))
      have hn2 : n2 = n := by rw [← s2.len]; exact hpk.2
      subst hn2
      have HS : Hid (repTo gs m (k + 1) = if cmpL (pad6 (mvd (gs.getD k []) m)) (pad6 (repTo gs m k)) < 0 then mvd (gs.getD k []) m else repTo gs m k) := by
        show _ = _
        rw [cmpL_pad6 (by rw [mvd, mvTo_len, repTo_len])]
        rfl
      have hv6 : (pad6 (mvd (gs.getD k []) m)).length = 6 := pad6_len (by rw [mvd, mvTo_len, HM.out]; exact hn6)
      have hAv : Agg Try.prog 57 ((pad6 (mvd (gs.getD k []) m)).map (Value.int .i64)).length := by
        rw [List.length_map, hv6]
        exact agg_key
      have HZv : Hid (zero6.length = ((pad6 (mvd (gs.getD k []) m)).map (Value.int .i64)).length) := by
        show _ = _
        rw [List.length_map, hv6]
        rfl
      have HZr : Hid (((pad6 (repTo gs m k)).map (Value.int .i64)).length = ((pad6 (mvd (gs.getD k []) m)).map (Value.int .i64)).length) := by
        show _ = _
        rw [List.length_map, List.length_map, hv6, hr6]
      have hmv := fun (wx : World) (e : Ext wr wx) => group_move (w := wx) (s2.ext e) hpk.1 HM.out
      generalize mvd (gs.getD k []) m = mv at *
      go_wp2_with (first
        | (refine wl_ldArr rfl rfl hAm rfl hB ?_)
        | fail)
      refine (hmv wr (Ext.refl wr)).mono ?_
      rintro e w2 ⟨rfl, hE2⟩
      have hB2 := hB.ext hE2
      have hR2 := hR.ext hE2
      have hL2 := hL.ext hE2
      have hEw2 := hE.trans hE2
      have hN2 : Arr (w2.alloc (.cells zero6.toArray 57)) w2.heap.size 57 zero6 := Arr.new w2 _ _
      have hlt2 := hL2.lt
      clear hB hR hL hE2
      go_wp2_with (first
        | (refine wl_stArr rfl rfl rfl rfl rfl hAv hN2 HZv.out (ints_one _) ?_; intro w3 hN3 hg3))
      have hE3 : Ext w w3 := (hEw2.alloc _).grown hg3 (by intro k hk; simp at hk; have := hEw2.size; omega)
      have hB3 := (hB2.alloc (.cells zero6.toArray 57)).kept hg3 (by simp; omega)
      have hR3 := (hR2.alloc (.cells zero6.toArray 57)).kept hg3 (by simp; omega)
      have hL3 := (hL2.alloc (.cells zero6.toArray 57)).kept hg3 (by simp; omega)
      clear hN2 hg3 hB2 hR2 hL2
      generalize w2.heap.size = N0 at *
      have sN := hN3.slI hv6
      have sL := hL3.slI hr6
      have hs1 := fun (wx : World) => run_slice_all (w := wx) (g := N0)
      have hs2 := fun (wx : World) => run_slice_all (w := wx) (g := L0)
      obtain ⟨cv, hcv⟩ : ∃ cv, cmpL (pad6 mv) (pad6 (repTo gs m k)) = cv := ⟨_, rfl⟩
      have hcmp := fun (wx : World) (e : Ext w3 wx) => slices_Compare (w := wx) (sN.ext e) (sL.ext e)
      rw [hcv] at hcmp
      have HS2 : Hid (repTo gs m (k + 1) = if cv < 0 then mv else repTo gs m k) := by
        show _ = _
        rw [HS.out, hcv]
      clear hcv HS
      go_wp2_with fail
      go_quiet ((go_at_call 37; exact Calls.quiet_of (hcmp _ ((Ext.refl _).drewN _))))
      by_cases hc : cv < 0
      · have HS3 : Hid (repTo gs m (k + 1) = mv) := by
          show _ = _
          rw [HS2.out, if_pos hc]
        go_wp2_with (first
          | (refine wl_ldArr rfl rfl hAv rfl (hN3.drewN _) ?_)
          | (refine wl_stArr rfl rfl rfl rfl rfl hAv (hL3.drewN _) HZr.out (ints_one _) ?_; intro w4 hL4 hg4))
        go_roundw
        case rel =>
          refine ⟨k + 1, by omega, by go_num, (hE3.drewN _).grown hg4 ?_, (hB3.drewN _).kept hg4 ?_, (hR3.drewN _).kept hg4 ?_, ?_⟩
          · intro k hk; simp at hk; omega
          · simp; omega
          · simp; omega
          · rw [HS3.out]; exact hL4
        case measure => simp [intOf]; omega
      · have HS3 : Hid (repTo gs m (k + 1) = repTo gs m k) := by
          show _ = _
          rw [HS2.out, if_neg hc]
        go_wp2
        go_roundw
        case rel => exact ⟨k + 1, by omega, by go_num, hE3.drewN _, hB3.drewN _, hR3.drewN _, by rw [HS3.out]; exact hL3.drewN _⟩
        case measure => simp [intOf]; omega
    · have e : k = q := by omega
      have HZ6 : Hid (zero6.length = ((pad6 (repTo gs m k)).map (Value.int .i64)).length) := by
        show _ = _
        rw [List.length_map, hr6]
        rfl
      have HF : Hid (pad6 (repS gs m) = pad6 (repTo gs m k)) := by
        show _ = _
        unfold repS
        rw [HX.out, e]
      clear e
      go_wp2_with (first
        | (refine wl_ldArr rfl rfl hAr rfl hL ?_)
        | (refine wl_stArr rfl rfl rfl rfl rfl hAr hR HZ6.out (ints_one _) ?_; intro w2 hB2 hg2))
      rw [HF.out]
      refine bodyPost_ret (v := keyV (pad6 (repTo gs m k))) ?_ rfl ⟨rfl, hE.grown hg2 ?_⟩
      · exact res_arr rfl hAr rfl hB2
      · intro k hk
        simp at hk
        omega

end Go.Proofs.Ytegmbdkdgpeahaa
