/- The contract of the law GroupGenerate: it returns true. -/
import Derived.Test.YtegmbdkdgpeahaaGenF
import Derived.Test.YtegmbdkdgpeahaaLawP
namespace Go.Proofs.Ytegmbdkdgpeahaa
open Go Go.RowKit

theorem SlL.upto {w : World} {a : Option Addr} {n c : Nat} {xss : List (List Int)} (h : SlL w a n c xss) {k : Nat} (hk : k ≤ n) : SlL w a k c (xss.take k) := by
  obtain ⟨hl, cs, h1, h2⟩ := h
  refine ⟨by rw [List.length_take]; omega, cs.take k, h1.upto hk, fun i hi => ?_⟩
  obtain ⟨a', n', c', h3, h4⟩ := h2 i (by omega)
  refine ⟨a', n', c', ?_, ?_⟩
  · rw [← h3]
    simp [List.getD_eq_getElem?_getD, List.getElem?_take_of_lt hi]
  · simpa [List.getD_eq_getElem?_getD, List.getElem?_take_of_lt hi] using h4

set_option maxRecDepth 10000 in
set_option maxHeartbeats 4000000 in
theorem law_GroupGenerate {l : Option Addr} {nl cl : Nat} {ls : List (List Int)} {n : Int} {w : World} (hl : SlL w l nl cl ls) :
    Calls Try.prog 4 #[.int .i64 n, .slice l nl cl] w fun e w' => e = .returned (.bool true) ∧ Ext w w' := by
  have HL := Lib.hid hl.len
  cases hs1 : smallLists ls 20 8 with
  | false =>
    go_enter Try.func4, Try.ntmps4
    go_wp2_with fail
    refine (keep_SmallLists hl).mono ?_
    rw [hs1]
    rintro e w2 ⟨rfl, rfl⟩
    go_wp2_with fail
    refine law_awake.mono ?_
    rintro e w9 ⟨rfl, hE9⟩
    go_wp2
    go_ret
    exact ⟨rfl, hE9⟩
  | true =>
    have hnl : nl ≤ 20 := by
      unfold smallLists at hs1
      rw [Bool.and_eq_true, decide_eq_true_eq] at hs1
      have h1 := hs1.1
      rw [HL.out] at h1
      omega
    by_cases h4 : 4 < n
    · by_cases h6 : n ≤ 6
      · by_cases h2 : (2 : Int) < nl
        · go_enter Try.func4, Try.ntmps4
          go_wp2_with fail
          refine (keep_SmallLists hl).mono ?_
          rw [hs1]
          rintro e w2 ⟨rfl, rfl⟩
          clear hs1
          have hE := Ext.refl w
          have hcap : nl ≤ cl := by obtain ⟨_, cs, h1, _⟩ := hl; exact h1.cap
          have hsl : ∀ wx : World, (Instr.sliceAt 35 (.slice l nl cl) none (some (.int .i64 2)) none).run Try.prog wx = .ok (.slice l 2 cl) wx := fun wx => run_slice_to (P := Try.prog) (w := wx) (a := l) (n := nl) Try.underlying35 info_ints (k := 2) (c := cl) (by omega)
          have hl := hl.upto (k := 2) (by omega)
          obtain ⟨G, hG⟩ : ∃ G, G = ls.take 2 := ⟨_, rfl⟩
          rw [← hG] at hl
          clear hG
          have hnl : 2 ≤ 80 := by omega

          obtain ⟨⟨os, er⟩, HO⟩ : ∃ C, Hid (genS n G = C) := ⟨_, Lib.hid rfl⟩
          go_wp2_with fail
          refine (group_Generate hl).mono ?_
          rw [show genS n G = (os, er) from HO.out]
          rintro e w4 ⟨a4, n4, c4, rfl, hE4, h4⟩
          go_wp2_with fail
          refine (ref_Generate (hl.ext hE4)).mono ?_
          rw [show genS n G = (os, er) from HO.out]
          rintro e w5 ⟨a5, n5, c5, rfl, hE5, h5⟩
          have hE := hE.trans (hE4.trans hE5)
          have h4 := h4.ext hE5
          have hl := hl.ext (hE4.trans hE5)
          clear hE4 hE5
          obtain ⟨ib, HIB⟩ : ∃ ib, Hid (isGB G = ib) := ⟨_, Lib.hid rfl⟩
          go_wp2_with fail
          refine (group_IsGroup hl (by omega)).mono ?_
          rw [show isGB G = ib from HIB.out]
          rintro e w6 ⟨rfl, hE6⟩
          go_wp2_with fail
          refine (ref_IsGroup (hl.ext hE6)).mono ?_
          rw [show isGB G = ib from HIB.out]
          rintro e w7 ⟨rfl, hE7⟩
          have hE := hE.trans (hE6.trans hE7)
          have h4 := h4.ext (hE6.trans hE7)
          have h5 := h5.ext (hE6.trans hE7)
          clear hE6 hE7 hl
          have hii : (ib == ib) = true := by simp
          have hee : (er == er) = true := by simp
          go_wp2_with fail
          refine (keep_Lists h4 h5).mono ?_
          rintro e w8 ⟨rfl, hQ8⟩
          have hd : decide (os = os) = true := by simp
          rw [hd]
          have hE := hE.trans hQ8.ext
          clear hd hQ8 h4 h5
          go_wp2_with fail
          refine law_awake.mono ?_
          rintro e w9 ⟨rfl, hE9⟩
          go_wp2
          go_ret
          exact ⟨rfl, hE.trans hE9⟩

        · have h2' : decide ((2 : Int) < nl) = false := by simp; omega
          go_enter Try.func4, Try.ntmps4
          go_wp2_with fail
          refine (keep_SmallLists hl).mono ?_
          rw [hs1]
          rintro e w2 ⟨rfl, rfl⟩
          clear hs1
          have hE := Ext.refl w
          obtain ⟨G, rfl⟩ : ∃ G, G = ls := ⟨_, rfl⟩

          obtain ⟨⟨os, er⟩, HO⟩ : ∃ C, Hid (genS n G = C) := ⟨_, Lib.hid rfl⟩
          go_wp2_with fail
          refine (group_Generate hl).mono ?_
          rw [show genS n G = (os, er) from HO.out]
          rintro e w4 ⟨a4, n4, c4, rfl, hE4, h4⟩
          go_wp2_with fail
          refine (ref_Generate (hl.ext hE4)).mono ?_
          rw [show genS n G = (os, er) from HO.out]
          rintro e w5 ⟨a5, n5, c5, rfl, hE5, h5⟩
          have hE := hE.trans (hE4.trans hE5)
          have h4 := h4.ext hE5
          have hl := hl.ext (hE4.trans hE5)
          clear hE4 hE5
          obtain ⟨ib, HIB⟩ : ∃ ib, Hid (isGB G = ib) := ⟨_, Lib.hid rfl⟩
          go_wp2_with fail
          refine (group_IsGroup hl (by omega)).mono ?_
          rw [show isGB G = ib from HIB.out]
          rintro e w6 ⟨rfl, hE6⟩
          go_wp2_with fail
          refine (ref_IsGroup (hl.ext hE6)).mono ?_
          rw [show isGB G = ib from HIB.out]
          rintro e w7 ⟨rfl, hE7⟩
          have hE := hE.trans (hE6.trans hE7)
          have h4 := h4.ext (hE6.trans hE7)
          have h5 := h5.ext (hE6.trans hE7)
          clear hE6 hE7 hl
          have hii : (ib == ib) = true := by simp
          have hee : (er == er) = true := by simp
          go_wp2_with fail
          refine (keep_Lists h4 h5).mono ?_
          rintro e w8 ⟨rfl, hQ8⟩
          have hd : decide (os = os) = true := by simp
          rw [hd]
          have hE := hE.trans hQ8.ext
          clear hd hQ8 h4 h5
          go_wp2_with fail
          refine law_awake.mono ?_
          rintro e w9 ⟨rfl, hE9⟩
          go_wp2
          go_ret
          exact ⟨rfl, hE.trans hE9⟩

      · have h6' : decide (n ≤ 6) = false := by simp; omega
        go_enter Try.func4, Try.ntmps4
        go_wp2_with fail
        refine (keep_SmallLists hl).mono ?_
        rw [hs1]
        rintro e w2 ⟨rfl, rfl⟩
        clear hs1
        have hE := Ext.refl w
        obtain ⟨G, rfl⟩ : ∃ G, G = ls := ⟨_, rfl⟩

        obtain ⟨⟨os, er⟩, HO⟩ : ∃ C, Hid (genS n G = C) := ⟨_, Lib.hid rfl⟩
        go_wp2_with fail
        refine (group_Generate hl).mono ?_
        rw [show genS n G = (os, er) from HO.out]
        rintro e w4 ⟨a4, n4, c4, rfl, hE4, h4⟩
        go_wp2_with fail
        refine (ref_Generate (hl.ext hE4)).mono ?_
        rw [show genS n G = (os, er) from HO.out]
        rintro e w5 ⟨a5, n5, c5, rfl, hE5, h5⟩
        have hE := hE.trans (hE4.trans hE5)
        have h4 := h4.ext hE5
        have hl := hl.ext (hE4.trans hE5)
        clear hE4 hE5
        obtain ⟨ib, HIB⟩ : ∃ ib, Hid (isGB G = ib) := ⟨_, Lib.hid rfl⟩
        go_wp2_with fail
        refine (group_IsGroup hl (by omega)).mono ?_
        rw [show isGB G = ib from HIB.out]
        rintro e w6 ⟨rfl, hE6⟩
        go_wp2_with fail
        refine (ref_IsGroup (hl.ext hE6)).mono ?_
        rw [show isGB G = ib from HIB.out]
        rintro e w7 ⟨rfl, hE7⟩
        have hE := hE.trans (hE6.trans hE7)
        have h4 := h4.ext (hE6.trans hE7)
        have h5 := h5.ext (hE6.trans hE7)
        clear hE6 hE7 hl
        have hii : (ib == ib) = true := by simp
        have hee : (er == er) = true := by simp
        go_wp2_with fail
        refine (keep_Lists h4 h5).mono ?_
        rintro e w8 ⟨rfl, hQ8⟩
        have hd : decide (os = os) = true := by simp
        rw [hd]
        have hE := hE.trans hQ8.ext
        clear hd hQ8 h4 h5
        go_wp2_with fail
        refine law_awake.mono ?_
        rintro e w9 ⟨rfl, hE9⟩
        go_wp2
        go_ret
        exact ⟨rfl, hE.trans hE9⟩

    · have h4' : decide (4 < n) = false := by simp; omega
      go_enter Try.func4, Try.ntmps4
      go_wp2_with fail
      refine (keep_SmallLists hl).mono ?_
      rw [hs1]
      rintro e w2 ⟨rfl, rfl⟩
      clear hs1
      have hE := Ext.refl w
      obtain ⟨G, rfl⟩ : ∃ G, G = ls := ⟨_, rfl⟩

      obtain ⟨⟨os, er⟩, HO⟩ : ∃ C, Hid (genS n G = C) := ⟨_, Lib.hid rfl⟩
      go_wp2_with fail
      refine (group_Generate hl).mono ?_
      rw [show genS n G = (os, er) from HO.out]
      rintro e w4 ⟨a4, n4, c4, rfl, hE4, h4⟩
      go_wp2_with fail
      refine (ref_Generate (hl.ext hE4)).mono ?_
      rw [show genS n G = (os, er) from HO.out]
      rintro e w5 ⟨a5, n5, c5, rfl, hE5, h5⟩
      have hE := hE.trans (hE4.trans hE5)
      have h4 := h4.ext hE5
      have hl := hl.ext (hE4.trans hE5)
      clear hE4 hE5
      obtain ⟨ib, HIB⟩ : ∃ ib, Hid (isGB G = ib) := ⟨_, Lib.hid rfl⟩
      go_wp2_with fail
      refine (group_IsGroup hl (by omega)).mono ?_
      rw [show isGB G = ib from HIB.out]
      rintro e w6 ⟨rfl, hE6⟩
      go_wp2_with fail
      refine (ref_IsGroup (hl.ext hE6)).mono ?_
      rw [show isGB G = ib from HIB.out]
      rintro e w7 ⟨rfl, hE7⟩
      have hE := hE.trans (hE6.trans hE7)
      have h4 := h4.ext (hE6.trans hE7)
      have h5 := h5.ext (hE6.trans hE7)
      clear hE6 hE7 hl
      have hii : (ib == ib) = true := by simp
      have hee : (er == er) = true := by simp
      go_wp2_with fail
      refine (keep_Lists h4 h5).mono ?_
      rintro e w8 ⟨rfl, hQ8⟩
      have hd : decide (os = os) = true := by simp
      rw [hd]
      have hE := hE.trans hQ8.ext
      clear hd hQ8 h4 h5
      go_wp2_with fail
      refine law_awake.mono ?_
      rintro e w9 ⟨rfl, hE9⟩
      go_wp2
      go_ret
      exact ⟨rfl, hE.trans hE9⟩

end Go.Proofs.Ytegmbdkdgpeahaa
