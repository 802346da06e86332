/- The walk of the program's IsGroup. -/
import Derived.Test.YtegmbdkdgpeahaaIsg2
namespace Go.Proofs.Ytegmbdkdgpeahaa
open Go Go.RowKit

/-- cells that lead to these lists, in whatever memory -/
def CEl (w : World) (cs : List Value) (ps : List (List Int)) : Prop := ∀ i, i < ps.length → ∃ a n c, cs.getD i undef = .slice a n c ∧ SlI w a n c (ps.getD i [])
theorem CEl.ext {w w' : World} {cs : List Value} {ps : List (List Int)} (h : CEl w cs ps) (e : Ext w w') : CEl w' cs ps :=
  fun i hi => let ⟨a, n, c, h1, h2⟩ := h i hi; ⟨a, n, c, h1, h2.ext e⟩
theorem CEl.snoc {w : World} {cs : List Value} {ps : List (List Int)} {a : Option Addr} {n c : Nat} {p : List Int} (h : CEl w cs ps) (hl : cs.length = ps.length) (hp : SlI w a n c p) : CEl w (cs ++ [.slice a n c]) (ps ++ [p]) := by
  intro i hi
  simp only [List.length_append, List.length_singleton] at hi
  by_cases h1 : i < ps.length
  · obtain ⟨a', n', c', h2, h3⟩ := h i h1
    refine ⟨a', n', c', ?_, ?_⟩
    · rw [← h2]
      simp [List.getD_eq_getElem?_getD, List.getElem?_append_left (hl ▸ h1)]
    · simpa [List.getD_eq_getElem?_getD, List.getElem?_append_left h1] using h3
  · have e : i = ps.length := by omega
    subst e
    refine ⟨a, n, c, ?_, ?_⟩
    · rw [← hl]
      simp [List.getD_eq_getElem?_getD]
    · simpa [List.getD_eq_getElem?_getD] using hp

theorem run_lenM {P : Program} {mt ty k e : TypeId} {r : Nat} {w : World} {es : Array MapEntry} {ck : Nat} (ht : P.underlying mt = some (.map k e)) (hb : w.heap[r]? = some (.map es ck)) :
    (Builtin.len_ #[mt] ty #[.map (some r)]).run P w = .ok (.int .i64 es.size) w := by
  simp [Builtin.len_, run_underlying ht, run_getObj_map w r es ck hb, goInt]

set_option maxRecDepth 10000 in
set_option maxHeartbeats 2000000 in
theorem group_IsGroup {a : Option Addr} {n c : Nat} {ls : List (List Int)} {w : World} (hx : SlL w a n c ls) (hn6 : n ≤ 1000000) :
    Calls Try.prog 18 #[.slice a n c] w (fun e w' => e = .returned (.bool (isGB ls)) ∧ Ext w w') := by
  have HX := Lib.hid hx.len
  by_cases h0 : n = 0
  · subst h0
    have HG := Lib.hid (isGB_false (l := ls) (fun h => by have := h.pos; rw [HX.out] at this; omega))
    go_enter Try.func18, Try.ntmps18
    go_wp2
    go_ret
    exact ⟨retB HG.out, Ext.refl w⟩
  · obtain ⟨b1, o1, a1, n1, c1, rfl, g0, s1⟩ := hx.at (k := 0) (by omega)
    have g1 : w.cell? ⟨b1, o1, none⟩ = some (.slice a1 n1 c1) := g0
    have HL1 := Lib.hid s1.len
    clear g0
    have hz : ((n : Int) == 0) = false := by simp; omega
    go_enter Try.func18, Try.ntmps18
    go_wp2
    go_loopw [19] (fun i wr => ∃ k : Nat, i = .int .i64 k ∧ k ≤ n ∧ Ext w wr ∧ Hid (okTo ls k)) (fun i _ => n - (intOf i).toNat)
    case atStart => exact ⟨0, rfl, Nat.zero_le _, Ext.refl _, Lib.hid ⟨fun i hi => by omega, fun i j h1 h2 => by omega⟩⟩
    case round =>
      obtain ⟨k, rfl, hk, hE, HK⟩ := hrel
      have hxr := hx.ext hE
      by_cases hlt : k < n
      · obtain ⟨b2, o2, a2, n2, c2, e2, g2, s2⟩ := hxr.at (k := k) hlt
        simp only [Option.some.injEq, Addr.mk.injEq, and_true] at e2
        obtain ⟨rfl, rfl⟩ := e2
        have hkl : k < ls.length := by rw [HX.out]; exact hlt
        have HL2 := Lib.hid s2.len
        cases hv : permB (ls.getD k []) with
        | false =>
          have HG := Lib.hid (isGB_false (l := ls) (fun h => by have := (h.perms _ (getD_mem hkl)).1; rw [hv] at this; cases this))
          go_wp2_with fail
          refine (group_Valid s2).mono ?_
          rw [hv]
          rintro e w1 ⟨rfl, hE1⟩
          go_wp2
          go_ret
          exact ⟨retB HG.out, hE.trans hE1⟩
        | true =>
          by_cases hne : n2 = n1
          · have hnb : ((n2 : Int) != (n1 : Int)) = false := by simp [hne]
            have hpl : permB (ls.getD k []) = true ∧ (ls.getD k []).length = (ls.getD 0 []).length := ⟨hv, by rw [HL1.out, HL2.out, hne]⟩
            have HPL := Lib.hid hpl
            clear hpl hne
            cases k with
            | zero =>
              rw [Nat.add_zero] at g2
              go_wp2_with fail
              refine (group_Valid s2).mono ?_
              rw [hv]
              rintro e w1 ⟨rfl, hE1⟩
              go_wp2
              go_roundw
              case rel => exact ⟨1, by go_num, by omega, hE.trans hE1, Lib.hid (okTo.one HPL.out.1)⟩
              case measure => simp [intOf]; omega
            | succ j =>
              obtain ⟨b3, o3, a3, n3, c3, e3, g3, s3⟩ := hxr.at (k := j) (by omega)
              simp only [Option.some.injEq, Addr.mk.injEq, and_true] at e3
              obtain ⟨rfl, rfl⟩ := e3
              have hw1 : IntKind.i64.wrap ((j : Int) + 1 - 1) = j := by rw [Int.add_sub_cancel]; exact IntWalk.i64_in _ (by omega)
              have hw2 : IntKind.i64.wrap (j : Int) = j := IntWalk.i64_in _ (by omega)
              go_wp2_with fail
              refine (group_Valid s2).mono ?_
              rw [hv]
              rintro e w1 ⟨rfl, hE1⟩
              have g3' := hE1.cell g3
              go_wp2_with fail
              refine (slices_Compare (s3.ext hE1) (s2.ext hE1)).mono ?_
              rintro e w2 ⟨rfl, hQ2⟩
              have hEE := (hE.trans hE1).trans hQ2.ext
              obtain ⟨cv, hcv⟩ : ∃ cv, cmpL (ls.getD j []) (ls.getD (j + 1) []) = cv := ⟨_, rfl⟩
              rw [hcv]
              have HCV := Lib.hid hcv
              clear hcv
              by_cases hge : 0 ≤ cv
              · have HG := Lib.hid (isGB_false (l := ls) (fun h => by have := h.sort j (j + 1) (by omega) hkl; rw [HCV.out] at this; omega))
                go_wp2
                go_ret
                exact ⟨retB HG.out, hEE⟩
              · go_wp2
                go_roundw
                case rel => exact ⟨j + 1 + 1, by go_num, by omega, hEE, Lib.hid (HK.out.succ HPL.out (by rw [HCV.out]; omega))⟩
                case measure => simp [intOf]; omega
          · have hnb : ((n2 : Int) != (n1 : Int)) = true := by simp; omega
            have HG := Lib.hid (isGB_false (l := ls) (fun h => by have := (h.perms _ (getD_mem hkl)).2; rw [HL1.out, HL2.out] at this; exact hne this))
            clear hne
            go_wp2_with fail
            refine (group_Valid s2).mono ?_
            rw [hv]
            rintro e w1 ⟨rfl, hE1⟩
            go_wp2
            go_ret
            exact ⟨retB HG.out, hE.trans hE1⟩
      · have ek : k = n := by omega
        obtain ⟨hpm, hsort⟩ := HK.out.all (by have := HX.out; omega)
        have HPM := Lib.hid hpm
        have HSO := Lib.hid hsort
        have hn16 : n1 ≤ 6 := by rw [← HL1.out]; exact (perm_spec (hpm _ (getD_mem (i := 0) (by have := HX.out; omega))).1).1
        rw [HL1.out] at hpm
        clear HK hsort ek hpm
        go_wp2_with fail
        refine (group_closure (gs := []) ⟨rfl, [], Sl.nil wr, fun i hi => by simp at hi⟩ hn16 (by intro g hg; cases hg)).mono ?_
        rintro e w2 ⟨r, L, rfl, hE2, hr, hM, hnd, hmem⟩
        have hEo := hE.trans hE2
        have hGI : GI ls [] L 0 := by
          refine ⟨by simp, hnd, by rw [HL1.out]; exact hmem, fun i hi => by omega, ?_⟩
          have := nodup_le L [idn n1] hnd (fun p hp => by
            obtain ⟨ws, h1, h2⟩ := (hmem p).1 hp
            cases ws with
            | nil => simp [h2]
            | cons g ws => exact absurd (h1 g (by simp)) (by simp))
          rw [HX.out]
          simp at this
          omega
        have hrw : w.heap.size ≤ r := by have := hE.size; omega
        clear hE2 hr hnd hmem
        go_wp2
        go_loopw [6, 7, 52] (fun v u i wr => ∃ k : Nat, ∃ gs L ag ng cg gc r, v = .slice ag ng cg ∧ u = .map (some r) ∧ i = .int .i64 k ∧ k ≤ n ∧ Ext w wr ∧ Hid (ng = gs.length) ∧ ng ≤ k ∧ w.heap.size ≤ r ∧ Own wr w.heap.size 22 ag ng cg gc ∧ CEl w gc gs ∧ MapIs wr r (kmap L) ∧ Hid (GI ls gs L k)) (fun _ _ i _ => n - (intOf i).toNat)
        case atStart => exact ⟨0, [], L, none, 0, 0, [], r, rfl, rfl, rfl, Nat.zero_le _, hEo, Lib.hid rfl, Nat.le_refl _, hrw, Own.nil _ _ _, by intro i hi; simp at hi, hM, Lib.hid hGI⟩
        case round =>
          clear hM hGI hrw hEo
          obtain ⟨k, gs, L, ag, ng, cg, gc, r, rfl, rfl, rfl, hk, hE3, HNG, hngk, hr, hO, hC, hM, HGI⟩ := hrel
          have hpg : PermsN gs n1 := fun g hg => by have := HPM.out g (HGI.out.sub g hg); rw [HL1.out] at this; exact this
          have HPG := Lib.hid hpg
          have HLL := Lib.hid (fun x hx => (reach_perm hn16 hpg (by have := (HGI.out.reach x).1 hx; rw [HL1.out] at this; exact this)).2)
          clear hpg
          obtain ⟨es, ck, hes, hez⟩ := map_heap hM
          have HEZ : Hid (es.size = L.length) := by show _ = _; rw [hez]; simp [kmap]
          clear hez
          by_cases hlt2 : k < n
          · obtain ⟨b2, o2, a2, n2, c2, e2, g2, s2⟩ := hx.at (k := k) hlt2
            simp only [Option.some.injEq, Addr.mk.injEq, and_true] at e2
            obtain ⟨rfl, rfl⟩ := e2
            have hkl : k < ls.length := by rw [HX.out]; exact hlt2
            have hpk := HPM.out _ (getD_mem hkl)
            rw [HL1.out] at hpk
            have hmk := getD_mem hkl
            obtain ⟨pk, hpkE⟩ : ∃ pk, ls.getD k [] = pk := ⟨_, rfl⟩
            rw [hpkE] at s2 hpk hmk
            have HPK := Lib.hid hpkE
            clear hpkE
            have hn2 : n2 ≤ 6 := by have := s2.len; omega
            have g2 := hE3.cell g2
            go_wp2_with fail
            refine (group_keyOf (s2.ext hE3) hn2).mono ?_
            rintro e w4 ⟨rfl, hE4⟩
            have hM4 := hM.ext hE4
            have hO4 := hO.ext hE4
            have hEw4 := hE3.trans hE4
            have hk6 : (pad6 (pk)).length = 6 := pad6_len (by omega)
            have hlook := kmap_look HLL.out hpk.2
            clear hes hM hO hE4
            by_cases hin : pk ∈ L
            · simp only [hin, decide_true] at hlook
              have HGn : Hid (GI ls gs L (k + 1)) := by
                show GI ls gs L (k + 1)
                refine ⟨HGI.out.sub, HGI.out.nodup, HGI.out.reach, fun i hi => ?_, HGI.out.few⟩
                by_cases he : i = k
                · subst he; rw [HPK.out]; exact hin
                · exact HGI.out.part i (by omega)
              go_wp2_with (refine wl_lookup rfl rfl und_map keyT_key zero_bool rfl rfl hM4 hk6 ?_; simp only [Bool.false_eq_true, if_false]; rw [hlook])
              go_roundw
              case rel => exact ⟨k + 1, gs, L, ag, ng, cg, gc, r, rfl, rfl, by go_num, by omega, hEw4, HNG, by omega, hr, hO4, hC, hM4, HGn⟩
              case measure => simp [intOf]; omega
            · simp only [hin, decide_false] at hlook
              have hA6 : Ext w4 (w4.alloc (.cells #[.slice a2 n2 c2] 22)) := (Ext.refl w4).alloc _
              have hS6 := (own_alloc w4 w.heap.size 22 #[.slice a2 n2 c2] 1 rfl hEw4.size (by omega)).sl
              have hO6 := hO4.ext hA6
              go_wp2_with (first
                | (refine wl_lookup rfl rfl und_map keyT_key zero_bool rfl rfl hM4 hk6 ?_; simp only [Bool.false_eq_true, if_false]; rw [hlook])
                | (refine wl_app rfl rfl Try.underlying35 info_ints rfl rfl hO6 rfl hS6 (by simp [Value.oneCell']) (by unfold maxLen; omega) (by omega) (by have := hEw4.size; simp; omega) ?_; intro a7 c7 w7 hO7 hg7 hb7))
              have hx7 : ∀ k, blk ag = some k → w.heap.size ≤ k := fun k hk => (hO6.lt hk).1
              have hE7 : Ext w w7 := (hEw4.trans hA6).grown hg7 hx7
              have hC7 : CEl w (gc ++ [.slice a2 n2 c2]) (gs ++ [pk]) := hC.snoc (by rw [hO4.len, HNG.out]) s2
              have hsub : ∀ g ∈ gs ++ [pk], g ∈ ls := by
                intro g hg
                rcases List.mem_append.1 hg with hg | hg
                · exact HGI.out.sub g hg
                · simp only [List.mem_singleton] at hg
                  subst hg
                  exact hmk
              have hpg2 : PermsN (gs ++ [pk]) n1 := fun g hg => by have := HPM.out g (hsub g hg); rw [HL1.out] at this; exact this
              have hSL : SlL w7 a7 (ng + 1) c7 (gs ++ [pk]) := ⟨by simp; exact HNG.out.symm, _, hO7.sl, fun i hi => by
                obtain ⟨a', n', c', h1, h2⟩ := hC7 i (by simp; have := HNG.out; omega)
                exact ⟨a', n', c', h1, h2.ext hE7⟩⟩
              refine (group_closure hSL hn16 hpg2).mono ?_
              rintro e w8 ⟨r8, L8, rfl, hE8, hr8, hM8, hnd8, hmem8⟩
              rw [← HL1.out] at hmem8
              obtain ⟨es8, ck8, hes8, hez8⟩ := map_heap hM8
              have HEZ8 : Hid (es8.size = L8.length) := by show _ = _; rw [hez8]; simp [kmap]
              clear hez8
              have hEw8 := hE7.trans hE8
              have hlm8 := run_lenM (P := Try.prog) (ty := 3) und_map hes8
              by_cases hbig : (n : Int) < (es8.size : Int)
              · have HG := Lib.hid (isGB_false (l := ls) (fun h => by have := GI.too h hsub hnd8 hmem8; have e1 := HEZ8.out; have e2 := HX.out; omega))
                go_wp2
                go_ret
                exact ⟨retB HG.out, hEw8⟩
              · have HGn : Hid (GI ls (gs ++ [pk]) L8 (k + 1)) := by
                  show GI ls _ L8 (k + 1)
                  refine ⟨hsub, hnd8, hmem8, fun i hi => ?_, by have e1 := HEZ8.out; have e2 := HX.out; omega⟩
                  by_cases he : i = k
                  · subst he
                    rw [hmem8, HPK.out]
                    refine ⟨[pk], by simp, ?_⟩
                    rw [List.foldr_cons, List.foldr_nil, HL1.out, ← hpk.2, comp_idn]
                  · rw [hmem8]
                    exact reach_mono (fun g hg => List.mem_append_left _ hg) ((HGI.out.reach _).1 (HGI.out.part i (by omega)))
                go_wp2
                go_roundw
                case rel => exact ⟨k + 1, _, L8, a7, ng + 1, c7, _, r8, rfl, rfl, by go_num, by omega, hEw8, Lib.hid (by rw [HNG.out]; simp), by omega, by have := hE7.size; omega, hO7.ext hE8, hC7, hM8, HGn⟩
                case measure => simp [intOf]; omega
          · have HFIN := Lib.hid (HGI.out.fin (by have := HX.out; omega) (by have := HX.out; omega) HPM.out HSO.out)
            have hlm := run_lenM (P := Try.prog) (ty := 3) und_map hes
            by_cases hq : es.size = n
            · have hqq : ((es.size : Int) == (n : Int)) = true := by simp [hq]
              have HG := Lib.hid (isGB_true (HFIN.out.2 (by have e1 := HEZ.out; have e2 := HX.out; omega)))
              clear hq
              go_wp2
              go_ret
              exact ⟨retB HG.out, hE3⟩
            · have hqq : ((es.size : Int) == (n : Int)) = false := by simp; omega
              have HG := Lib.hid (isGB_false (fun h => hq (by have := HFIN.out.1 h; have e1 := HEZ.out; have e2 := HX.out; omega)))
              clear hq
              go_wp2
              go_ret
              exact ⟨retB HG.out, hE3⟩

end Go.Proofs.Ytegmbdkdgpeahaa
