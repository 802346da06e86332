/- The contract of the law GroupPermutations: it returns true. -/
import Derived.Test.YtegmbdkdgpeahaaLawG
import Derived.Test.YtegmbdkdgpeahaaCyc
namespace Go.Proofs.Ytegmbdkdgpeahaa
open Go Go.RowKit

set_option maxRecDepth 10000 in
set_option maxHeartbeats 2000000 in
theorem law_GroupPermutations {a b : Option Addr} {na nb ca cb : Nat} {xs ys : List Int} {n : Int} {raw : Bool} {w : World} (hx : SlI w a na ca xs) (hy : SlI w b nb cb ys) :
    Calls Try.prog 5 #[.slice a na ca, .slice b nb cb, .int .i64 n, .bool raw] w fun e w' => e = .returned (.bool true) ∧ Ext w w' := by
  go_enter Try.func5, Try.ntmps5
  go_wp2_with fail
  have s1 := lit_slL (w := w) (cs := #[.slice a na ca, .slice b nb cb]) (xss := [xs, ys]) (n := 2) rfl (by omega) rfl (by
      intro i hi
      have : i = 0 ∨ i = 1 := by omega
      rcases this with rfl | rfl
      · exact ⟨_, _, _, rfl, hx⟩
      · exact ⟨_, _, _, rfl, hy⟩)
  refine (law_few s1).mono ?_
  rintro e w1 ⟨rfl, rfl⟩
  have hE : Ext w (w.alloc (.cells #[.slice a na ca, .slice b nb cb] 22)) := (Ext.refl w).alloc _
  obtain ⟨w1, e1⟩ : ∃ w1 : World, w1 = w.alloc (.cells #[.slice a na ca, .slice b nb cb] 22) := ⟨_, rfl⟩
  rw [← e1] at hE ⊢
  clear e1 s1
  have hx := hx.ext hE
  have hy := hy.ext hE
  generalize hfw : [xs, ys].all (fun x => decide (x.length ≤ 20)) = fw
  clear hfw
  cases fw with
  | false =>
    go_wp2_with fail
    refine law_awake.mono ?_
    rintro e w2 ⟨rfl, hE2⟩
    go_wp2
    go_ret
    exact ⟨rfl, hE.trans hE2⟩
  | true =>
    cases raw with
    | true =>
      obtain ⟨⟨cs, ce⟩, HC⟩ : ∃ C, Hid (composeS xs ys = C) := ⟨_, Lib.hid rfl⟩
      obtain ⟨⟨vs, ve⟩, HV⟩ : ∃ C, Hid (inverseS xs = C) := ⟨_, Lib.hid rfl⟩
      obtain ⟨⟨ov, oe⟩, HO⟩ : ∃ C, Hid (orderS xs = C) := ⟨_, Lib.hid rfl⟩
      obtain ⟨⟨ys', ye⟩, HY⟩ : ∃ C, Hid (cyclesS xs = C) := ⟨_, Lib.hid rfl⟩
      go_wp2_with fail
      refine (group_Compose hx hy).mono ?_
      rw [show composeS xs ys = (cs, ce) from HC.out]
      rintro e w3 ⟨a3, n3, c3, rfl, hE3, hO3⟩
      have h3 := hO3.sl
      clear hO3
      go_wp2_with fail
      refine (ref_Compose (hx.ext hE3) (hy.ext hE3)).mono ?_
      rw [show composeS xs ys = (cs, ce) from HC.out]
      rintro e w4 ⟨a4, n4, c4, rfl, hE4, hO4⟩
      have h4 := hO4.sl
      have h3 := h3.ext hE4
      have hE := hE.trans (hE3.trans hE4)
      have hx := hx.ext (hE3.trans hE4)
      clear hO4 hE3 hE4 hy
      go_wp2_with fail
      refine (group_Inverse hx).mono ?_
      rw [show inverseS xs = (vs, ve) from HV.out]
      rintro e w5 ⟨a5, n5, c5, rfl, hE5, hO5⟩
      have h5 := hO5.sl
      clear hO5
      go_wp2_with fail
      refine (ref_Inverse (hx.ext hE5)).mono ?_
      rw [show inverseS xs = (vs, ve) from HV.out]
      rintro e w6 ⟨a6, n6, c6, rfl, hE6, hO6⟩
      have h6 := hO6.sl
      have h5 := h5.ext hE6
      have h4 := h4.ext (hE5.trans hE6)
      have h3 := h3.ext (hE5.trans hE6)
      have hx := hx.ext (hE5.trans hE6)
      have hE := hE.trans (hE5.trans hE6)
      clear hO6 hE5 hE6
      go_wp2_with fail
      refine (group_Valid hx).mono ?_
      rintro e w7 ⟨rfl, hE7⟩
      have h3 := h3.ext hE7
      have h4 := h4.ext hE7
      have h5 := h5.ext hE7
      have h6 := h6.ext hE7
      have hx := hx.ext hE7
      have hE := hE.trans hE7
      clear hE7
      go_wp2_with fail
      refine (ref_Valid hx).mono ?_
      rintro e w8 ⟨rfl, hE8⟩
      have h3 := h3.ext hE8
      have h4 := h4.ext hE8
      have h5 := h5.ext hE8
      have h6 := h6.ext hE8
      have hx := hx.ext hE8
      have hE := hE.trans hE8
      clear hE8
      generalize permB xs = pb
      have hbb : (pb != pb) = false := by simp
      go_wp2_with fail
      refine (keep_Ints h3 h4).mono ?_
      rintro e w9 ⟨rfl, hQ9⟩
      have hd : decide (cs = cs) = true := by simp
      rw [hd]
      have h5 := h5.ext hQ9.ext
      have h6 := h6.ext hQ9.ext
      have hx := hx.ext hQ9.ext
      have hE := hE.trans hQ9.ext
      clear hd hQ9 h3 h4
      have hce : (ce != ce) = false := by simp
      go_wp2_with fail
      refine (keep_Ints h5 h6).mono ?_
      rintro e w10 ⟨rfl, hQ10⟩
      have hd : decide (vs = vs) = true := by simp
      rw [hd]
      have hx := hx.ext hQ10.ext
      have hE := hE.trans hQ10.ext
      clear hd hQ10 h5 h6
      have hve : (ve != ve) = false := by simp
      go_wp2_with fail
      refine (group_Order hx).mono ?_
      rw [show orderS xs = (ov, oe) from HO.out]
      rintro e w11 ⟨rfl, hE11⟩
      have hx := hx.ext hE11
      have hE := hE.trans hE11
      clear hE11
      go_wp2_with fail
      refine (ref_Order hx).mono ?_
      rw [show orderS xs = (ov, oe) from HO.out]
      rintro e w12 ⟨rfl, hE12⟩
      have hx := hx.ext hE12
      have hE := hE.trans hE12
      clear hE12
      go_wp2_with fail
      refine (group_Cycles hx).mono ?_
      rw [show cyclesS xs = (ys', ye) from HY.out]
      rintro e w13 ⟨a13, n13, c13, l13, rfl, hE13, hn13, hO13, hQ13⟩
      have h13 := slL_of hn13 hO13 hQ13
      clear hn13 hO13 hQ13
      go_wp2_with fail
      refine (ref_Cycles (hx.ext hE13)).mono ?_
      rw [show cyclesS xs = (ys', ye) from HY.out]
      rintro e w14 ⟨a14, n14, c14, l14, rfl, hE14, hn14, hO14, hQ14⟩
      have h14 := slL_of hn14 hO14 hQ14
      have h13 := h13.ext hE14
      have hE := hE.trans (hE13.trans hE14)
      clear hn14 hO14 hQ14 hE13 hE14 hx
      have hoo : (ov == ov) = true := by simp
      have hee : (oe == oe) = true := by simp
      have hyy : (ye == ye) = true := by simp
      go_wp2_with fail
      refine (keep_Lists h13 h14).mono ?_
      rintro e w15 ⟨rfl, hQ15⟩
      have hd : decide (ys' = ys') = true := by simp
      rw [hd]
      have hE := hE.trans hQ15.ext
      clear hd hQ15 h13 h14
      go_wp2_with fail
      refine law_awake.mono ?_
      rintro e w16 ⟨rfl, hE16⟩
      go_wp2
      go_ret
      exact ⟨rfl, hE.trans hE16⟩
    | false =>
      go_wp2_with fail
      refine (keep_Mod (by omega) (by omega)).mono ?_
      rintro e w2 ⟨rfl, rfl⟩
      obtain ⟨m, hm, hm6⟩ := mod7 n
      rw [hm]
      clear hm
      go_wp2_with fail
      refine (permutation_ok hx hm6).mono ?_
      clear hx
      rintro e w2 ⟨a2, c2, xs, rfl, hE2, hx, pp, pl⟩
      have hE := hE.trans hE2
      have hy := hy.ext hE2
      clear pp pl hE2
      go_wp2_with fail
      refine (permutation_ok hy hm6).mono ?_
      clear hy
      rintro e w2' ⟨a2', c2', ys, rfl, hE2, hy, pp, pl⟩
      have hE := hE.trans hE2
      have hx := hx.ext hE2
      clear pp pl hE2
      obtain ⟨⟨cs, ce⟩, HC⟩ : ∃ C, Hid (composeS xs ys = C) := ⟨_, Lib.hid rfl⟩
      obtain ⟨⟨vs, ve⟩, HV⟩ : ∃ C, Hid (inverseS xs = C) := ⟨_, Lib.hid rfl⟩
      obtain ⟨⟨ov, oe⟩, HO⟩ : ∃ C, Hid (orderS xs = C) := ⟨_, Lib.hid rfl⟩
      obtain ⟨⟨ys', ye⟩, HY⟩ : ∃ C, Hid (cyclesS xs = C) := ⟨_, Lib.hid rfl⟩
      go_wp2_with fail
      refine (group_Compose hx hy).mono ?_
      rw [show composeS xs ys = (cs, ce) from HC.out]
      rintro e w3 ⟨a3, n3, c3, rfl, hE3, hO3⟩
      have h3 := hO3.sl
      clear hO3
      go_wp2_with fail
      refine (ref_Compose (hx.ext hE3) (hy.ext hE3)).mono ?_
      rw [show composeS xs ys = (cs, ce) from HC.out]
      rintro e w4 ⟨a4, n4, c4, rfl, hE4, hO4⟩
      have h4 := hO4.sl
      have h3 := h3.ext hE4
      have hE := hE.trans (hE3.trans hE4)
      have hx := hx.ext (hE3.trans hE4)
      clear hO4 hE3 hE4 hy
      go_wp2_with fail
      refine (group_Inverse hx).mono ?_
      rw [show inverseS xs = (vs, ve) from HV.out]
      rintro e w5 ⟨a5, n5, c5, rfl, hE5, hO5⟩
      have h5 := hO5.sl
      clear hO5
      go_wp2_with fail
      refine (ref_Inverse (hx.ext hE5)).mono ?_
      rw [show inverseS xs = (vs, ve) from HV.out]
      rintro e w6 ⟨a6, n6, c6, rfl, hE6, hO6⟩
      have h6 := hO6.sl
      have h5 := h5.ext hE6
      have h4 := h4.ext (hE5.trans hE6)
      have h3 := h3.ext (hE5.trans hE6)
      have hx := hx.ext (hE5.trans hE6)
      have hE := hE.trans (hE5.trans hE6)
      clear hO6 hE5 hE6
      go_wp2_with fail
      refine (group_Valid hx).mono ?_
      rintro e w7 ⟨rfl, hE7⟩
      have h3 := h3.ext hE7
      have h4 := h4.ext hE7
      have h5 := h5.ext hE7
      have h6 := h6.ext hE7
      have hx := hx.ext hE7
      have hE := hE.trans hE7
      clear hE7
      go_wp2_with fail
      refine (ref_Valid hx).mono ?_
      rintro e w8 ⟨rfl, hE8⟩
      have h3 := h3.ext hE8
      have h4 := h4.ext hE8
      have h5 := h5.ext hE8
      have h6 := h6.ext hE8
      have hx := hx.ext hE8
      have hE := hE.trans hE8
      clear hE8
      generalize permB xs = pb
      have hbb : (pb != pb) = false := by simp
      go_wp2_with fail
      refine (keep_Ints h3 h4).mono ?_
      rintro e w9 ⟨rfl, hQ9⟩
      have hd : decide (cs = cs) = true := by simp
      rw [hd]
      have h5 := h5.ext hQ9.ext
      have h6 := h6.ext hQ9.ext
      have hx := hx.ext hQ9.ext
      have hE := hE.trans hQ9.ext
      clear hd hQ9 h3 h4
      have hce : (ce != ce) = false := by simp
      go_wp2_with fail
      refine (keep_Ints h5 h6).mono ?_
      rintro e w10 ⟨rfl, hQ10⟩
      have hd : decide (vs = vs) = true := by simp
      rw [hd]
      have hx := hx.ext hQ10.ext
      have hE := hE.trans hQ10.ext
      clear hd hQ10 h5 h6
      have hve : (ve != ve) = false := by simp
      go_wp2_with fail
      refine (group_Order hx).mono ?_
      rw [show orderS xs = (ov, oe) from HO.out]
      rintro e w11 ⟨rfl, hE11⟩
      have hx := hx.ext hE11
      have hE := hE.trans hE11
      clear hE11
      go_wp2_with fail
      refine (ref_Order hx).mono ?_
      rw [show orderS xs = (ov, oe) from HO.out]
      rintro e w12 ⟨rfl, hE12⟩
      have hx := hx.ext hE12
      have hE := hE.trans hE12
      clear hE12
      go_wp2_with fail
      refine (group_Cycles hx).mono ?_
      rw [show cyclesS xs = (ys', ye) from HY.out]
      rintro e w13 ⟨a13, n13, c13, l13, rfl, hE13, hn13, hO13, hQ13⟩
      have h13 := slL_of hn13 hO13 hQ13
      clear hn13 hO13 hQ13
      go_wp2_with fail
      refine (ref_Cycles (hx.ext hE13)).mono ?_
      rw [show cyclesS xs = (ys', ye) from HY.out]
      rintro e w14 ⟨a14, n14, c14, l14, rfl, hE14, hn14, hO14, hQ14⟩
      have h14 := slL_of hn14 hO14 hQ14
      have h13 := h13.ext hE14
      have hE := hE.trans (hE13.trans hE14)
      clear hn14 hO14 hQ14 hE13 hE14 hx
      have hoo : (ov == ov) = true := by simp
      have hee : (oe == oe) = true := by simp
      have hyy : (ye == ye) = true := by simp
      go_wp2_with fail
      refine (keep_Lists h13 h14).mono ?_
      rintro e w15 ⟨rfl, hQ15⟩
      have hd : decide (ys' = ys') = true := by simp
      rw [hd]
      have hE := hE.trans hQ15.ext
      clear hd hQ15 h13 h14
      go_wp2_with fail
      refine law_awake.mono ?_
      rintro e w16 ⟨rfl, hE16⟩
      go_wp2
      go_ret
      exact ⟨rfl, hE.trans hE16⟩

end Go.Proofs.Ytegmbdkdgpeahaa
