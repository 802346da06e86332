/- The walk of the program's Orbits. -/
import Derived.Test.YtegmbdkdgpeahaaOrb3
namespace Go.Proofs.Ytegmbdkdgpeahaa
open Go Go.RowKit

theorem und_mapI : Try.prog.underlying 63 = some (.map 57 3) := by kernel_rfl
theorem zero_int (w : World) : (zeroValue 3).run Try.prog w = .ok (.int .i64 0) w := by kernel_rfl

/-- returns a list of lists and an error -/
def RetLE (w : World) (os : List (List Int)) (er : Int) (e : Ending) (w' : World) : Prop :=
  ∃ a n c, e = .returned (.tuple #[.slice a n c, .int .i64 er]) ∧ Ext w w' ∧ SlL w' a n c os
theorem RetLE.none {w w' : World} {os : List (List Int)} {er er' : Int} (he : Ext w w') (h : (os, er) = ([], er')) : RetLE w os er (.returned (.tuple #[.slice none 0 0, .int .i64 er'])) w' := by
  simp only [Prod.mk.injEq] at h
  obtain ⟨rfl, rfl⟩ := h
  exact ⟨Option.none, 0, 0, rfl, he, rfl, [], Sl.nil _, fun i hi => by omega⟩

theorem all_at {l : List (List Int)} {p : List Int → Bool} (h : l.all p = true) {k : Nat} (hk : k < l.length) : p (l.getD k []) = true := by
  rw [List.all_eq_true] at h
  exact h _ (getD_mem hk)

theorem idxL_len (ks : List (List Int)) (k : Nat) (κ : List Int) : (idxL ks k κ).length ≤ k := by
  unfold idxL
  rw [List.length_map]
  have := List.length_filter_le (fun j => decide (ks.getD j [] = κ)) (List.range k)
  rw [List.length_range] at this
  exact this
theorem idxAt_len (ks D : List (List Int)) (k j : Nat) : ((D.map (idxL ks k)).getD j []).length ≤ k := by
  by_cases h : j < D.length
  · have e : (D.map (idxL ks k)).getD j [] = idxL ks k D[j] := by simp [List.getD_eq_getElem?_getD, h]
    rw [e]
    exact idxL_len _ _ _
  · have e : (D.map (idxL ks k)).getD j [] = [] := by simp [List.getD_eq_getElem?_getD, List.getElem?_eq_none (Nat.le_of_not_lt h)]
    rw [e]
    simp
theorem own_snoc {w : World} {base : Nat} {a : Option Addr} {n c : Nat} {xs : List Int} {k : Int} (h : Own w base 3 a n c (xs.map (Value.int .i64) ++ [.int .i64 k])) : OwnI w base a n c (xs ++ [k]) := by
  unfold OwnI
  rw [List.map_append]
  exact h
theorem ne_of_own {o : Option Nat} {r : Nat} (h : o = none ∨ o ≠ some r) : some r ≠ o := by
  rcases h with h | h
  · rw [h]; simp
  · exact fun e => h e.symm

set_option maxRecDepth 10000 in
set_option maxHeartbeats 2000000 in
theorem group_Orbits {a b : Option Addr} {n c m d : Nat} {gs ls : List (List Int)} {w : World} (hx : SlL w a n c gs) (hy : SlL w b m d ls) (hn6 : n ≤ 1000000) (hm6 : m ≤ 1000000) :
    Calls Try.prog 29 #[.slice a n c, .slice b m d] w (RetLE w (orbitsS gs ls).1 (orbitsS gs ls).2) := by
  have HX := Lib.hid hx.len
  have HY := Lib.hid hy.len
  cases hg : isGB gs with
  | false =>
    have HS : Hid (orbitsS gs ls = ([], 1)) := by
      show _ = _
      unfold orbitsS
      rw [if_neg (by rw [hg]; simp)]
    go_enter Try.func29, Try.ntmps29
    go_wp2_with fail
    refine (group_IsGroup hx hn6).mono ?_
    rw [hg]
    rintro e w1 ⟨rfl, hE1⟩
    go_wp2
    go_ret2
    exact RetLE.none hE1 (by rw [HS.out])
  | true =>
    have hG : isG gs := by
      refine Classical.byContradiction fun h => ?_
      rw [isGB_false h] at hg
      cases hg
    have HG := Lib.hid hG
    have hn0 : 0 < n := by rw [← HX.out]; exact hG.pos
    clear hG
    go_enter Try.func29, Try.ntmps29
    go_wp2_with fail
    refine (group_IsGroup hx hn6).mono ?_
    rw [hg]
    rintro e w1 ⟨rfl, hE1⟩
    have HGB := Lib.hid hg
    clear hg
    go_wp2
    go_loopw [22] (fun i wr => ∃ k : Nat, i = .int .i64 k ∧ k ≤ m ∧ Ext w wr ∧ Hid ((ls.take k).all validS = true)) (fun i _ => m - (intOf i).toNat)
    case atStart => exact ⟨0, rfl, Nat.zero_le _, hE1, Lib.hid rfl⟩
    case round =>
      clear hE1
      obtain ⟨k, rfl, hk, hE, HV⟩ := hrel
      have hyr := hy.ext hE
      by_cases hlt : k < m
      · obtain ⟨b2, o2, a2, n2, c2, rfl, g2, s2⟩ := hyr.at hlt
        have hkl : k < ls.length := by rw [HY.out]; exact hlt
        cases hv : validS (ls.getD k []) with
        | false =>
          have HS : Hid (orbitsS gs ls = ([], 1)) := by
            show _ = _
            unfold orbitsS
            rw [if_neg (by rw [all_no hkl hv]; simp)]
          go_wp2_with fail
          refine (mono_Valid s2).mono ?_
          rw [hv]
          rintro e w2 ⟨rfl, rfl⟩
          go_wp2
          go_ret2
          exact RetLE.none hE (by rw [HS.out])
        | true =>
          have HV2 := Lib.hid (all_step hkl HV.out hv)
          go_wp2_with fail
          refine (mono_Valid s2).mono ?_
          rw [hv]
          rintro e w2 ⟨rfl, rfl⟩
          go_wp2
          go_roundw
          case rel => exact ⟨k + 1, by go_num, by omega, hE, HV2⟩
          case measure => simp [intOf]; omega
      · have hall : Hid (ls.all validS = true) := by
          have := HV.out
          rw [List.take_of_length_le (by have := HY.out; omega)] at this
          exact this
        have ek : k = m := by omega
        clear HV ek
        obtain ⟨b1, o1, a1, n1, c1, rfl, g0, s1⟩ := hx.at (k := 0) hn0
        rw [Nat.add_zero] at g0
        have HL1 := Lib.hid s1.len
        go_wp2
        go_loop [32] (fun i => ∃ k : Nat, i = .int .i64 k ∧ k ≤ m ∧ Hid ((ls.take k).all (fun m => decide (m.length = (gs.getD 0 []).length)) = true)) (fun i => m - (intOf i).toNat)
        case atStart => exact ⟨0, rfl, Nat.zero_le _, Lib.hid rfl⟩
        case round =>
          obtain ⟨k, rfl, hk, HV⟩ := hrel
          by_cases hlt : k < m
          · obtain ⟨b2, o2, a2, n2, c2, rfl, g2, s2⟩ := hyr.at hlt
            have hkl : k < ls.length := by rw [HY.out]; exact hlt
            have g0 := hE.cell g0
            have HL2 := Lib.hid s2.len
            by_cases hne : n2 = n1
            · have hnb : ((n2 : Int) != (n1 : Int)) = false := by simp [hne]
              have HV2 := Lib.hid (all_step hkl HV.out (by rw [HL2.out, HL1.out]; simp [hne]))
              clear hne
              go_wp2
              go_round
              case rel => exact ⟨k + 1, by go_num, by omega, HV2⟩
              case measure => simp [intOf]; omega
            · have hnb : ((n2 : Int) != (n1 : Int)) = true := by simp; omega
              have HS : Hid (orbitsS gs ls = ([], 4)) := by
                show _ = _
                unfold orbitsS
                rw [if_pos ⟨HGB.out, hall.out⟩, if_neg]
                rw [all_no hkl (by rw [HL2.out, HL1.out]; simp [hne])]
                simp
              clear hne
              go_wp2
              go_ret2
              exact RetLE.none hE (by rw [HS.out])
          · have hlen : Hid (ls.all (fun m => decide (m.length = (gs.getD 0 []).length)) = true) := by
              have := HV.out
              rw [List.take_of_length_le (by have := HY.out; omega)] at this
              exact this
            have ek : k = m := by omega
            clear HV ek
            by_cases h64 : (64 : Int) < m
            · have HS : Hid (orbitsS gs ls = ([], 2)) := by
                show _ = _
                unfold orbitsS
                rw [if_pos ⟨HGB.out, hall.out⟩, if_pos hlen.out, if_pos (by rw [HY.out]; omega)]
              go_wp2
              go_ret2
              exact RetLE.none hE (by rw [HS.out])
            · have HS : Hid (orbitsS gs ls = (orbS (ls.map (repS gs)), 0)) := by
                show _ = _
                unfold orbitsS
                rw [if_pos ⟨HGB.out, hall.out⟩, if_pos hlen.out, if_neg (by rw [HY.out]; omega)]
              have HPN : Hid (PermsN gs n1) := by
                have := HG.out.perms
                rw [HL1.out] at this
                exact this
              have hn16 : n1 ≤ 6 := by rw [← HL1.out]; exact (perm_spec (HG.out.perms _ (getD_mem HG.out.pos)).1).1
              obtain ⟨ks, hks⟩ : ∃ ks, ls.map (repS gs) = ks := ⟨_, rfl⟩
              have HKS := Lib.hid hks
              rw [hks] at HS
              clear hks
              have HKL : Hid (∀ x, x ∈ ks → x.length = n1) := by
                show ∀ x, x ∈ ks → x.length = n1
                intro x hx
                rw [← HKS.out, List.mem_map] at hx
                obtain ⟨y, hy, rfl⟩ := hx
                have := hlen.out
                rw [List.all_eq_true] at this
                have := this y hy
                rw [decide_eq_true_eq, HL1.out] at this
                rw [rep_len, this]
              have HKN : Hid (ks.length = m) := by
                show _ = _
                rw [← HKS.out, List.length_map, HY.out]
              go_wp2_with (refine wl_mkMap rfl rfl ?_; intro w2 hM2 hE2 hs2)
              have hEw2 := hE.trans hE2
              have hr0 := hE.size
              generalize hR : wr.heap.size = R at *
              go_loopw [10, 50] (fun v i wr => ∃ k : Nat, ∃ ao no co qc, v = .slice ao no co ∧ i = .int .i64 k ∧ k ≤ m ∧ Ext w wr ∧ MapIs wr R (nmap (dk ks k)) ∧ OB wr w.heap.size ao no co qc ((dk ks k).map (idxL ks k)) ∧ no ≤ k) (fun _ i _ => m - (intOf i).toNat)
              case atStart => exact ⟨0, none, 0, 0, [], rfl, rfl, Nat.zero_le _, hEw2, hM2, OB.nil _ _, Nat.le_refl _⟩
              case round =>
                clear hM2 hEw2 hE2 hs2
                obtain ⟨k, ao, no, co, qc, rfl, rfl, hk, hE3, hM3, hO3, hnok⟩ := hrel
                by_cases hlt : k < m
                · obtain ⟨b2, o2, a2, n2, c2, rfl, g2, s2⟩ := hy.at hlt
                  have hkl : k < ls.length := by rw [HY.out]; exact hlt
                  have hn2 : n2 = n1 := by
                    rw [← s2.len]
                    have := all_at hlen.out hkl
                    rw [decide_eq_true_eq, HL1.out] at this
                    exact this
                  subst hn2
                  have g2 := hE3.cell g2
                  have s3 := s2.ext hE3
                  have hx3 := hx.ext hE3
                  have hkk : ks.getD k [] = repS gs (ls.getD k []) := by
                    rw [← HKS.out]
                    simp [List.getD_eq_getElem?_getD, hkl]
                  have HKK := Lib.hid hkk
                  have HLK := Lib.hid s2.len
                  have hkD : ks.getD k [] ∈ ks := getD_mem (by rw [HKN.out]; exact hlt)
                  have hkn := HKL.out _ hkD
                  have HDL : Hid (∀ x, x ∈ dk ks k → x.length = n2) := by
                    show ∀ x, x ∈ dk ks k → x.length = n2
                    intro x hx
                    obtain ⟨j, hj, rfl⟩ := dk_mem.1 hx
                    exact HKL.out _ (getD_mem (by rw [HKN.out]; omega))
                  clear hkk hkD
                  obtain ⟨lk, hlk⟩ : ∃ lk, ls.getD k [] = lk := ⟨_, rfl⟩
                  obtain ⟨κ, hκ⟩ : ∃ κ, ks.getD k [] = κ := ⟨_, rfl⟩
                  have HK := Lib.hid hκ
                  rw [hκ] at hkn HKK
                  rw [hlk] at s3 HKK HLK s2
                  clear hκ hlk
                  go_wp2_with fail
                  refine (group_keyOf s3 hn16).mono ?_
                  rintro e w4 ⟨rfl, hE4⟩
                  go_wp2_with fail
                  refine (group_representative (hx3.ext hE4) HPN.out HLK.out hn16).mono ?_
                  rw [← show κ = repS gs lk from HKK.out]
                  rintro e w5 ⟨rfl, hE5⟩
                  have hE35 := hE4.trans hE5
                  have hMx := hM3.ext hE35
                  have hOx := hO3.ext hE35
                  have hEx := hE3.trans hE35
                  clear hM3 hO3 hE4 hE5 hE35 g2 s3 hx3
                  have hk6 : (pad6 κ).length = 6 := pad6_len (by omega)
                  have hAv : Agg Try.prog 57 ((pad6 κ).map (Value.int .i64)).length := by
                    rw [List.length_map, hk6]
                    exact agg_key
                  have HZv : Hid (zero6.length = ((pad6 κ).map (Value.int .i64)).length) := by
                    show _ = _
                    rw [List.length_map, hk6]
                    rfl
                  have hN0 : Arr (w5.alloc (.cells zero6.toArray 57)) w5.heap.size 57 zero6 := Arr.new w5 _ _
                  go_upto_region 23 with (refine wl_stArr rfl rfl rfl rfl rfl hAv hN0 HZv.out (ints_one _) ?_; intro w6 hN6 hg6)
                  have hb6 : ∀ q, some w5.heap.size = some q → w.heap.size ≤ q := by
                    intro q hq
                    simp only [Option.some.injEq] at hq
                    have := hEx.size
                    omega
                  have h56 : Ext w5 w6 := ((Ext.refl w5).alloc _).grown hg6 (by intro q hq; simp only [Option.some.injEq] at hq; omega)
                  have hE6 := hEx.trans h56
                  have hM6 := hMx.ext h56
                  have hO6 := hOx.ext h56
                  clear hMx hOx hEx h56 hg6 hN0 hb6
                  generalize w5.heap.size = N0 at *
                  by_cases hin : κ ∈ dk ks k
                  · obtain ⟨j, hj, hjk, hlk, hhk⟩ := nmap_old HDL.out hkn hin
                    have HD : Hid (dk ks (k + 1) = dk ks k) := by
                      show _ = _
                      exact if_pos (by rw [HK.out]; exact hin)
                    have hjn : j < no := by rw [← hO6.len, List.length_map]; exact hj
                    have HST := Lib.hid (orb_step (ks := ks) (i := k) (dk_nodup ks k) hj (by rw [hjk, HK.out]))
                    obtain ⟨a7, n7, c7, hq7, ho7⟩ := hO6.els j (by rw [List.length_map]; exact hj)
                    obtain ⟨go, rfl, hgo1, hgo2⟩ := hO6.row.place (by omega)
                    have gc := Own.cellAt hO6.row hjn
                    rw [hq7] at gc
                    have hn7 : n7 ≤ k := by rw [← ho7.sl.len]; exact idxAt_len _ _ _ _
                    have hA7 : Ext w6 (w6.alloc (.cells #[.int .i64 k] 3)) := (Ext.refl w6).alloc _
                    have hS7 := (own_alloc w6 w.heap.size 3 #[.int .i64 k] 1 rfl hE6.size (by omega)).sl
                    have ho7a := ho7.ext hA7
                    have hO7a := hO6.ext hA7
                    generalize ((dk ks k).map (idxL ks k)).getD j [] = xs at *
                    clear hjk hin
                    go_wp2_with (first
                      | (refine wl_ldArr rfl rfl hAv rfl hN6 ?_)
                      | (refine wl_lookup rfl rfl und_mapI keyT_key zero_int rfl rfl hM6 hk6 ?_; simp only [if_true]; rw [hlk, hhk])
                      | (refine wl_app rfl rfl Try.underlying22 info_int rfl rfl ho7a rfl hS7 (by simp [Value.oneCell']) (by unfold maxLen; omega) (by omega) (by have := hE6.size; simp; omega) ?_; intro a8 c8 w8 ho8 hg8 hb8; have hgr := hO7a.grow hjn hq7 (own_snoc ho8) hg8 hb8; have gc8 := Own.cellAt hgr.1 hjn; have gf8 := Own.frozenAt hgr.1 j))
                    go_roundw
                    case rel =>
                      have hx7 : ∀ q, blk a7 = some q → w.heap.size ≤ q := fun q hq => (Own.lt ho7a hq).1
                      have hE8 : Ext w w8 := (hE6.trans hA7).grown hg8 hx7
                      have hM8 := (hM6.ext hA7).kept hg8 (ne_of_own (own_ne_map ho7a (hM6.ext hA7)))
                      refine ⟨k + 1, _, no, co, qc.set j (.slice a8 (n7 + 1) c8), rfl, by go_num, by omega, hE8.setCell hgo1 _, ?_, ?_, by omega⟩
                      · rw [HD.out]
                        exact hM8.kept (grown_setCell _ _ _ _) (by rintro ⟨⟩; exact absurd (own_ne_map hgr.1 hM8) (by simp [blk]))
                      · rw [HD.out, HST.out]
                        exact hgr.2
                    case measure => simp [intOf]; omega
                  · obtain ⟨hhk, hlk, hpk⟩ := nmap_new HDL.out hkn hin
                    have hDn : (dk ks k).length = no := by rw [← hO6.len, List.length_map]
                    have HDN := Lib.hid hDn
                    have HD : Hid (dk ks (k + 1) = dk ks k ++ [κ]) := by
                      show _ = _
                      rw [← HK.out]
                      exact if_neg (by rw [HK.out]; exact hin)
                    have HDM : Hid ((dk ks (k + 1)).map (idxL ks k) = (dk ks k).map (idxL ks k) ++ [[]]) := orb_new (by rw [HK.out]; exact hin)
                    have HST := Lib.hid (orb_step (ks := ks) (D := dk ks (k + 1)) (i := k) (j := no) (dk_nodup ks (k + 1)) (by rw [HD.out, List.length_append, HDN.out]; simp) (by rw [HD.out, HK.out, ← HDN.out]; simp [List.getD_eq_getElem?_getD]))
                    rw [hDn] at hpk
                    have HPK := Lib.hid hpk
                    clear hin hpk hDn
                    go_upto_region 28 with (first
                      | (refine wl_ldArr rfl rfl hAv rfl hN6 ?_)
                      | (refine wl_lookup rfl rfl und_mapI keyT_key zero_int rfl rfl hM6 hk6 ?_; simp only [if_true]; rw [hlk, hhk])
                      | (refine wl_put (v := .int .i64 no) rfl (Or.inl rfl) und_mapI keyT_key rfl rfl rfl hM6 hk6 ?_; intro w7 hM7 hg7; have hO7 := (hO6.put hM6 hg7 hM7).ext ((Ext.refl w7).alloc (.cells #[.slice none 0 0] 22)); have hS7 := (own_alloc w7 w.heap.size 22 #[.slice none 0 0] 1 rfl (by have := hE6.size; have := hg7.size; omega) (by omega)).sl)
                      | (refine wl_app rfl rfl Try.underlying35 info_ints rfl rfl hO7.row rfl hS7 (by simp [Value.oneCell']) (by unfold maxLen; omega) (by omega) (by have := hE6.size; have := hg7.size; simp; omega) ?_; intro a8 c8 w8 ho8 hg8 hb8))
                    have hA7 : Ext w7 (w7.alloc (.cells #[.slice none 0 0] 22)) := (Ext.refl w7).alloc _
                    have hE7 : Ext w w7 := hE6.grown hg7 (by intro q hq; simp only [Option.some.injEq] at hq; omega)
                    have hE8 : Ext w w8 := (hE7.trans hA7).grown hg8 (fun q hq => (hO7.row.lt hq).1)
                    have hM8 := (hM7.ext hA7).kept hg8 (ne_of_own (own_ne_map hO7.row (hM7.ext hA7)))
                    have hO8 := hO7.more ho8 hg8
                    rw [HPK.out] at hM8
                    clear hO7 hS7 hg7 hg8 hM7 hM6 hO6 hN6 hb8 ho8 hE6 hE7 hA7
                    obtain ⟨go, rfl, hgo1, hgo2⟩ := hO8.row.place (by omega)
                    have hq8 : (qc ++ [Value.slice none 0 0]).getD no undef = .slice none 0 0 := by
                      have := hO8.row.len
                      rw [List.length_append, List.length_singleton, Nat.add_right_cancel_iff] at this
                      rw [← this]
                      exact getD_app_r
                    have gc := Own.cellAt hO8.row (j := no) (by omega)
                    rw [hq8] at gc
                    have hA9 : Ext w8 (w8.alloc (.cells #[.int .i64 k] 3)) := (Ext.refl w8).alloc _
                    have hS9 := (own_alloc w8 w.heap.size 3 #[.int .i64 k] 1 rfl hE8.size (by omega)).sl
                    have hO9 := hO8.ext hA9
                    have ho9 : OwnI (w8.alloc (.cells #[.int .i64 k] 3)) w.heap.size none 0 0 [] := Own.nil _ _ _
                    have hno : (no : Int) < (no : Int) + 1 := by omega
                    go_wp2_with (first
                      | (refine wl_app rfl rfl Try.underlying22 info_int rfl rfl ho9 rfl hS9 (by simp [Value.oneCell']) (by unfold maxLen; omega) (by omega) (by have := hE8.size; simp; omega) ?_; intro a10 c10 w10 ho10 hg10 hb10; have hgr := hO9.grow (j := no) (by omega) hq8 (own_snoc ho10) hg10 hb10; have gc10 := Own.cellAt hgr.1 (j := no) (by omega); have gf10 := Own.frozenAt hgr.1 no))
                    go_roundw
                    case rel =>
                      have hE10 : Ext w w10 := (hE8.trans hA9).grown hg10 (by intro q hq; cases hq)
                      have hM10 := (hM8.ext hA9).kept hg10 (by simp [blk])
                      refine ⟨k + 1, _, no + 1, c8, (qc ++ [Value.slice none 0 0]).set no (.slice a10 (0 + 1) c10), by first | rfl | go_num, by go_num, by omega, hE10.setCell hgo1 _, ?_, ?_, by omega⟩
                      · rw [HD.out]
                        exact hM10.kept (grown_setCell _ _ _ _) (by rintro ⟨⟩; exact absurd (own_ne_map hgr.1 hM10) (by simp [blk]))
                      · rw [HST.out, HDM.out]
                        have e : (((dk ks k).map (idxL ks k) ++ [[]]).getD no []) = [] := by
                          rw [← HDN.out]
                          simp [List.getD_eq_getElem?_getD]
                        rw [e]
                        exact hgr.2
                    case measure => simp [intOf]; omega
                · have ek : k = m := by omega
                  have HF : Hid (orbitsS gs ls = ((dk ks k).map (idxL ks k), 0)) := by
                    show _ = _
                    rw [HS.out, ek, ← HKN.out]
                    rfl
                  go_wp2
                  go_ret2
                  rw [HF.out]
                  exact ⟨ao, no, co, rfl, hE3, hO3.slL⟩

end Go.Proofs.Ytegmbdkdgpeahaa
