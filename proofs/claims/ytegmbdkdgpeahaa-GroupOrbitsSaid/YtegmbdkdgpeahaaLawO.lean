/- The contract of the law GroupOrbits: it returns true. -/
import Derived.Test.YtegmbdkdgpeahaaOrb5
import Derived.Test.YtegmbdkdgpeahaaMade
import Derived.Test.YtegmbdkdgpeahaaLawP
namespace Go.Proofs.Ytegmbdkdgpeahaa
open Go Go.RowKit

set_option maxRecDepth 10000 in
set_option maxHeartbeats 4000000 in
theorem law_GroupOrbits {a b l r : Option Addr} {na nb ca cb nl cl nr cr : Nat} {xs ys : List Int} {ls rs : List (List Int)} {n : Int} {use : Bool} {w : World} (hx : SlI w a na ca xs) (hy : SlI w b nb cb ys) (hl : SlL w l nl cl ls) (hr : SlL w r nr cr rs) :
    Calls Try.prog 6 #[.int .i64 n, .slice a na ca, .slice b nb cb, .slice l nl cl, .slice r nr cr, .bool use] w fun e w' => e = .returned (.bool true) ∧ Ext w w' := by
  have HL := Lib.hid hl.len
  have HR := Lib.hid hr.len
  go_enter Try.func6, Try.ntmps6
  go_wp2_with fail
  have s1 := lit_slL (w := w) (cs := #[.slice a na ca, .slice b nb cb]) (xss := [xs, ys]) (n := 2) rfl (by omega) rfl (by
      intro i hi
      have : i = 0 ∨ i = 1 := by omega
      rcases this with rfl | rfl
      · exact ⟨_, _, _, rfl, hx⟩
      · exact ⟨_, _, _, rfl, hy⟩)
  refine (law_few s1).mono ?_
  rintro e w1 ⟨rfl, rfl⟩
  have hE : Ext w (w.alloc (.cells #[.slice a na ca, .slice b nb cb] 22)) := (Ext.refl w).alloc _
  obtain ⟨w1, e1⟩ : ∃ w1 : World, w1 = w.alloc (.cells #[.slice a na ca, .slice b nb cb] 22) := ⟨_, rfl⟩
  rw [← e1] at hE ⊢
  clear e1 s1
  have hx := hx.ext hE
  have hy := hy.ext hE
  have hl := hl.ext hE
  have hr := hr.ext hE
  generalize hfw : [xs, ys].all (fun x => decide (x.length ≤ 20)) = fw
  clear hfw
  cases fw with
  | false =>
    go_wp2_with fail
    refine law_awake.mono ?_
    rintro e w9 ⟨rfl, hE9⟩
    go_wp2
    go_ret
    exact ⟨rfl, hE.trans hE9⟩

  | true =>
    cases hs1 : smallLists ls 80 8 with
    | false =>
      go_wp2_with fail
      refine (keep_SmallLists hl).mono ?_
      rintro e w2 ⟨rfl, rfl⟩
      rw [hs1]

      go_wp2_with fail
      refine law_awake.mono ?_
      rintro e w9 ⟨rfl, hE9⟩
      go_wp2
      go_ret
      exact ⟨rfl, hE.trans hE9⟩

    | true =>
      have hnl : nl ≤ 80 := by
        unfold smallLists at hs1
        rw [Bool.and_eq_true, decide_eq_true_eq] at hs1
        have h1 := hs1.1
        rw [HL.out] at h1
        omega
      have hm6 : nl ≤ 1000000 := by omega
      go_wp2_with fail
      refine (keep_SmallLists hl).mono ?_
      rintro e w2 ⟨rfl, rfl⟩
      rw [hs1]
      clear hs1

      by_cases h12 : (12 : Int) < nl
      · by_cases h60 : (nl : Int) < 60
        · go_wp2_with fail
          refine law_awake.mono ?_
          rintro e w9 ⟨rfl, hE9⟩
          go_wp2
          go_ret
          exact ⟨rfl, hE.trans hE9⟩

        · have h60' : decide ((nl : Int) < 60) = false := by simp; omega
          cases hs2 : smallLists rs 6 8 with
          | false =>
            go_wp2_with fail
            refine (keep_SmallLists hr).mono ?_
            rintro e w2 ⟨rfl, rfl⟩
            rw [hs2]

            go_wp2_with fail
            refine law_awake.mono ?_
            rintro e w9 ⟨rfl, hE9⟩
            go_wp2
            go_ret
            exact ⟨rfl, hE.trans hE9⟩

          | true =>
            have hnr : nr ≤ 6 := by
              unfold smallLists at hs2
              rw [Bool.and_eq_true, decide_eq_true_eq] at hs2
              have h1 := hs2.1
              rw [HR.out] at h1
              omega
            go_wp2_with fail
            refine (keep_SmallLists hr).mono ?_
            rintro e w2 ⟨rfl, rfl⟩
            rw [hs2]
            clear hs2

            cases use with
            | true =>
              go_wp2_with fail
              refine (law_made hx hy).mono ?_
              rintro e w3 ⟨ps, a3, n3, c3, cells, mm, rfl, hE3, -, -, -, -, -, -⟩
              have hE := hE.trans hE3
              have hl := hl.ext hE3
              have hg := hr.ext hE3
              have hq6 : nr ≤ 1000000 := by omega
              obtain ⟨G, rfl⟩ : ∃ G, G = rs := ⟨_, rfl⟩
              clear hE3 hr hx hy
              obtain ⟨⟨os, er⟩, HO⟩ : ∃ C, Hid (orbitsS G ls = C) := ⟨_, Lib.hid rfl⟩
              go_wp2_with fail
              refine (group_Orbits hg hl hq6 hm6).mono ?_
              rw [show orbitsS G ls = (os, er) from HO.out]
              rintro e w4 ⟨a4, n4, c4, rfl, hE4, h4⟩
              go_wp2_with fail
              refine (ref_Orbits (hg.ext hE4) (hl.ext hE4) hq6 hm6).mono ?_
              rw [show orbitsS G ls = (os, er) from HO.out]
              rintro e w5 ⟨a5, n5, c5, rfl, hE5, h5⟩
              have hE := hE.trans (hE4.trans hE5)
              have h4 := h4.ext hE5
              clear hE4 hE5 hg hl
              have hee : (er == er) = true := by simp
              go_wp2_with fail
              refine (keep_Lists h4 h5).mono ?_
              rintro e w6 ⟨rfl, hQ6⟩
              have hd : decide (os = os) = true := by simp
              rw [hd]
              have hE := hE.trans hQ6.ext
              clear hd hQ6 h4 h5

              go_wp2_with fail
              refine law_awake.mono ?_
              rintro e w9 ⟨rfl, hE9⟩
              go_wp2
              go_ret
              exact ⟨rfl, hE.trans hE9⟩

            | false =>
              go_wp2_with fail
              refine (law_made hx hy).mono ?_
              rintro e w3 ⟨G, a3, n3, c3, cells, mm, rfl, hE3, hn3, hn7, hO3, hQ3, hm1, hm4⟩
              have hE := hE.trans hE3
              have hl := hl.ext hE3
              have hg := slL_of hn3 hO3 hQ3
              have hq6 : n3 ≤ 1000000 := by omega
              clear hE3 hr hx hy hn3 hO3 hQ3 hn7
              obtain ⟨⟨os, er⟩, HO⟩ : ∃ C, Hid (orbitsS G ls = C) := ⟨_, Lib.hid rfl⟩
              go_wp2_with fail
              refine (group_Orbits hg hl hq6 hm6).mono ?_
              rw [show orbitsS G ls = (os, er) from HO.out]
              rintro e w4 ⟨a4, n4, c4, rfl, hE4, h4⟩
              go_wp2_with fail
              refine (ref_Orbits (hg.ext hE4) (hl.ext hE4) hq6 hm6).mono ?_
              rw [show orbitsS G ls = (os, er) from HO.out]
              rintro e w5 ⟨a5, n5, c5, rfl, hE5, h5⟩
              have hE := hE.trans (hE4.trans hE5)
              have h4 := h4.ext hE5
              clear hE4 hE5 hg hl
              have hee : (er == er) = true := by simp
              go_wp2_with fail
              refine (keep_Lists h4 h5).mono ?_
              rintro e w6 ⟨rfl, hQ6⟩
              have hd : decide (os = os) = true := by simp
              rw [hd]
              have hE := hE.trans hQ6.ext
              clear hd hQ6 h4 h5

              go_wp2_with fail
              refine law_awake.mono ?_
              rintro e w9 ⟨rfl, hE9⟩
              go_wp2
              go_ret
              exact ⟨rfl, hE.trans hE9⟩

      · have h12' : decide ((12 : Int) < nl) = false := by simp; omega
        cases hs2 : smallLists rs 6 8 with
        | false =>
          go_wp2_with fail
          refine (keep_SmallLists hr).mono ?_
          rintro e w2 ⟨rfl, rfl⟩
          rw [hs2]

          go_wp2_with fail
          refine law_awake.mono ?_
          rintro e w9 ⟨rfl, hE9⟩
          go_wp2
          go_ret
          exact ⟨rfl, hE.trans hE9⟩

        | true =>
          have hnr : nr ≤ 6 := by
            unfold smallLists at hs2
            rw [Bool.and_eq_true, decide_eq_true_eq] at hs2
            have h1 := hs2.1
            rw [HR.out] at h1
            omega
          go_wp2_with fail
          refine (keep_SmallLists hr).mono ?_
          rintro e w2 ⟨rfl, rfl⟩
          rw [hs2]
          clear hs2

          cases use with
          | true =>
            go_wp2_with fail
            refine (law_made hx hy).mono ?_
            rintro e w3 ⟨ps, a3, n3, c3, cells, mm, rfl, hE3, -, -, -, -, -, -⟩
            have hE := hE.trans hE3
            have hl := hl.ext hE3
            have hg := hr.ext hE3
            have hq6 : nr ≤ 1000000 := by omega
            obtain ⟨G, rfl⟩ : ∃ G, G = rs := ⟨_, rfl⟩
            clear hE3 hr hx hy
            obtain ⟨⟨os, er⟩, HO⟩ : ∃ C, Hid (orbitsS G ls = C) := ⟨_, Lib.hid rfl⟩
            go_wp2_with fail
            refine (group_Orbits hg hl hq6 hm6).mono ?_
            rw [show orbitsS G ls = (os, er) from HO.out]
            rintro e w4 ⟨a4, n4, c4, rfl, hE4, h4⟩
            go_wp2_with fail
            refine (ref_Orbits (hg.ext hE4) (hl.ext hE4) hq6 hm6).mono ?_
            rw [show orbitsS G ls = (os, er) from HO.out]
            rintro e w5 ⟨a5, n5, c5, rfl, hE5, h5⟩
            have hE := hE.trans (hE4.trans hE5)
            have h4 := h4.ext hE5
            clear hE4 hE5 hg hl
            have hee : (er == er) = true := by simp
            go_wp2_with fail
            refine (keep_Lists h4 h5).mono ?_
            rintro e w6 ⟨rfl, hQ6⟩
            have hd : decide (os = os) = true := by simp
            rw [hd]
            have hE := hE.trans hQ6.ext
            clear hd hQ6 h4 h5

            go_wp2_with fail
            refine law_awake.mono ?_
            rintro e w9 ⟨rfl, hE9⟩
            go_wp2
            go_ret
            exact ⟨rfl, hE.trans hE9⟩

          | false =>
            go_wp2_with fail
            refine (law_made hx hy).mono ?_
            rintro e w3 ⟨G, a3, n3, c3, cells, mm, rfl, hE3, hn3, hn7, hO3, hQ3, hm1, hm4⟩
            have hE := hE.trans hE3
            have hl := hl.ext hE3
            have hg := slL_of hn3 hO3 hQ3
            have hq6 : n3 ≤ 1000000 := by omega
            clear hE3 hr hx hy hn3 hO3 hQ3 hn7
            obtain ⟨⟨os, er⟩, HO⟩ : ∃ C, Hid (orbitsS G ls = C) := ⟨_, Lib.hid rfl⟩
            go_wp2_with fail
            refine (group_Orbits hg hl hq6 hm6).mono ?_
            rw [show orbitsS G ls = (os, er) from HO.out]
            rintro e w4 ⟨a4, n4, c4, rfl, hE4, h4⟩
            go_wp2_with fail
            refine (ref_Orbits (hg.ext hE4) (hl.ext hE4) hq6 hm6).mono ?_
            rw [show orbitsS G ls = (os, er) from HO.out]
            rintro e w5 ⟨a5, n5, c5, rfl, hE5, h5⟩
            have hE := hE.trans (hE4.trans hE5)
            have h4 := h4.ext hE5
            clear hE4 hE5 hg hl
            have hee : (er == er) = true := by simp
            go_wp2_with fail
            refine (keep_Lists h4 h5).mono ?_
            rintro e w6 ⟨rfl, hQ6⟩
            have hd : decide (os = os) = true := by simp
            rw [hd]
            have hE := hE.trans hQ6.ext
            clear hd hQ6 h4 h5

            go_wp2_with fail
            refine law_awake.mono ?_
            rintro e w9 ⟨rfl, hE9⟩
            go_wp2
            go_ret
            exact ⟨rfl, hE.trans hE9⟩

end Go.Proofs.Ytegmbdkdgpeahaa
