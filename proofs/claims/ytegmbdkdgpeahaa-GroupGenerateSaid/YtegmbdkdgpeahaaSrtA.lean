/- slices.SortFunc at any length, off the kit's shelf, in the words of these walks. -/
import Derived.Test.YtegmbdkdgpeahaaSrtW
import Derived.Test.YtegmbdkdgpeahaaPlace
import Derived.Test.YtegmbdkdgpeahaaShelfS
import Derived.Shelf.SlSortCmp.Whole1
namespace Go.Proofs.Ytegmbdkdgpeahaa
open Go Go.RowKit Go.Sort

theorem ltV_true {w : World} {g : Nat} {x y : SlV w g} (h : ltOf cfV x y = true) : cmpL x.xs y.xs < 0 := of_decide_eq_true h
theorem ltV_false {w : World} {g : Nat} {x y : SlV w g} (h : ltOf cfV x y = false) : ¬ cmpL x.xs y.xs < 0 := of_decide_eq_false h
theorem ltV_is {w : World} {g : Nat} {x y : SlV w g} (h : cmpL x.xs y.xs < 0) : ltOf cfV x y = true := decide_eq_true h
theorem ltV_isnt {w : World} {g : Nat} {x y : SlV w g} (h : ¬ cmpL x.xs y.xs < 0) : ltOf cfV x y = false := decide_eq_false h
theorem swoV {w : World} {g : Nat} : SWO (ltOf (cfV (w := w) (g := g))) where
  irrefl x := ltV_isnt (by rw [cmpL_self]; omega)
  trans x y z h1 h2 := ltV_is (cmpL_lt_trans (ltV_true h1) (ltV_true h2))
  ntrans x y z h1 h2 := by
    have a1 := ltV_false h1
    have a2 := ltV_false h2
    have h3 := cmpL_anti x.xs y.xs
    have h4 := cmpL_anti y.xs z.xs
    have h5 := cmpL_anti x.xs z.xs
    have h6 := cmpL_trans (a := z.xs) (b := y.xs) (c := x.xs) (by omega) (by omega)
    exact ltV_isnt (by omega)

theorem SortFunc_any {base g n c : Nat} {ps : List (List Int)} {w : World} (hS : Srt w base g n c ps) (hn : n ≤ 1000) :
    Calls Try.prog 48 #[.slice (some ⟨g, 0, none⟩) n c, .func (.func 37) #[] #[]] w (SrtPost w base g n c ps 0 n) := by
  obtain ⟨d, hd, hcells, hxs⟩ := srt_elems hS
  have hglt : g < w.heap.size := by
    obtain ⟨_, cells, hO, _⟩ := hS
    exact (hO.lt (k := g) rfl).2
  have eg : ∀ args w, (callFunc 37 args).run Try.prog w = .ok (.enter 37 args) w := enters_of Try.func37 (by kernel_rfl) rfl
  have hcmp : CmpReads Try.prog 37 #[] (SlV.enc (w := w) (g := g)) cfV g 0 d.size w := by
    intro m os dk _ x y
    have hgr := sortWorld_grown SlV.enc w g m dk os
    have hx : SlI (sortWorld SlV.enc w g 0 m dk os) x.1.1.1 x.1.1.2.1 x.1.1.2.2 x.xs := Sl.kept x.2.1 hgr (Or.inr x.2.2)
    have hy : SlI (sortWorld SlV.enc w g 0 m dk os) y.1.1.1 y.1.1.2.1 y.1.1.2.2 y.xs := Sl.kept y.2.1 hgr (Or.inr y.2.2)
    exact slices_Compare hx hy
  have hH : Holds SlV.enc w g 0 d := by
    intro j hj
    rw [Nat.zero_add]
    exact hcells j (by omega)
  have h := Any.slices_SortFunc sortL SlV.enc (fun _ => rfl) cfV swoV 37 #[] g 0 c d w eg hcmp.lays hH hglt (by omega)
  rw [hd] at h
  refine h.mono ?_
  rintro e w' ⟨rfl, d', q, os, hp, hso, rfl⟩
  obtain ⟨p1, _, p3⟩ := hp
  have hd' : d'.size = n := by rw [p1, hd]
  have hperm : d'.toList.Perm d.toList := by
    rw [Array.extract_eq_self_of_le (by omega), Array.extract_eq_self_of_le (by omega)] at p3
    exact p3
  refine ⟨rfl, d'.toList.map SlV.xs, srt_back hS hd' ?_, ⟨?_, ?_⟩, ?_, sortWorld_grown _ _ _ _ _ _⟩
  · intro v hv
    have := hperm.mem_iff.1 hv
    obtain ⟨i, hi, e⟩ := List.mem_iff_getElem.1 this
    have hi' : i < d.size := by simpa using hi
    have hb : d[i]! = v := by
      rw [← e]
      simp [hi']
    refine ⟨i, by omega, by rw [← hb]; exact (hcells i (by omega)).1, ?_⟩
    rw [← hxs, ← e, List.getD_eq_getElem?_getD, List.getElem?_map, List.getElem?_eq_getElem hi]
    rfl
  · rw [← hxs]
    exact hperm.map _
  · intro i hi
    rcases hi with hi | hi
    · omega
    · rw [List.getD_eq_getElem?_getD, List.getD_eq_getElem?_getD, List.getElem?_eq_none (by simp; omega), List.getElem?_eq_none (by rw [hS.len]; exact hi)]
  · intro i j h0 h1 h2
    have := hso i j h0 h1 h2
    have hi' : i < d'.size := by omega
    have hj' : j < d'.size := by omega
    have := ltV_false this
    have e1 : (d'.toList.map SlV.xs).getD i [] = d'[i]!.xs := by simp [List.getD_eq_getElem?_getD, hi']
    have e2 : (d'.toList.map SlV.xs).getD j [] = d'[j]!.xs := by simp [List.getD_eq_getElem?_getD, hj']
    rw [e1, e2]
    have := cmpL_anti d'[i]!.xs d'[j]!.xs
    omega

end Go.Proofs.Ytegmbdkdgpeahaa
