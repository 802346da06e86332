/- The contract of group.Generate at lists of permutations, and of awake. -/
import Derived.Test.YtegmbdkdgpeahaaSrt3
namespace Go.Proofs.Ytegmbdkdgpeahaa
open Go Go.RowKit

/-- returns a new slice of slices of ints and an error -/
def RetSE (w : World) (ps : List (List Int)) (er : Int) (e : Ending) (w' : World) : Prop :=
  ∃ a n c cells, e = .returned (.tuple #[.slice a n c, .int .i64 er]) ∧ Ext w w' ∧ n = ps.length ∧ Own w' w.heap.size 22 a n c cells ∧ QEl w' w.heap.size cells ps

theorem slL_of {w : World} {base : Nat} {a : Option Addr} {n c : Nat} {cells : List Value} {ps : List (List Int)} (hn : n = ps.length) (hO : Own w base 22 a n c cells) (hQ : QEl w base cells ps) : SlL w a n c ps := by
  refine ⟨hn.symm, cells, hO.sl, fun i hi => ?_⟩
  obtain ⟨a', n', c', h1, h2⟩ := hQ i (by omega)
  exact ⟨a', n', c', h1, h2.sl⟩

set_option maxHeartbeats 1000000 in
theorem group_Generate_ok {n : Nat} {ag : Option Addr} {ng cg : Nat} {gs : List (List Int)} {w : World} (hg : SlL w ag ng cg gs) (hn : n ≤ 6) (hp : PermsN gs n) (h16 : ng ≤ 16)
    (h12 : ∀ L : List (List Int), L.Nodup → (∀ p, p ∈ L ↔ Reach gs n p) → L.length ≤ 12) :
    Calls Try.prog 16 #[.int .i64 n, .slice ag ng cg] w (fun e w' => ∃ ps, RetSE w ps 0 e w' ∧ ps.Nodup ∧ (∀ p, p ∈ ps ↔ Reach gs n p) ∧ ordOn ps 0 ps.length) := by
  have HG := Lib.hid hg.len
  have HP := Lib.hid hp
  have H12 := Lib.hid h12
  clear hp h12
  go_enter Try.func16, Try.ntmps16
  go_wp2
  go_loopw [21] (fun i wr => ∃ k : Nat, k ≤ ng ∧ i = .int .i64 k ∧ Ext w wr) (fun i _ => ng - (intOf i).toNat)
  case atStart => exact ⟨0, Nat.zero_le _, rfl, Ext.refl _⟩
  case round =>
    obtain ⟨k, hk, rfl, hE⟩ := hrel
    have hgw := hg.ext hE
    by_cases hlt : k < ng
    · obtain ⟨bg, og, ag1, ng1, cg1, rfl, hcg, hSg⟩ := hgw.at hlt
      have hv : permB (gs.getD k []) = true := (HP.out _ (by simp [List.getD_eq_getElem?_getD, HG.out, hlt])).1
      generalize gs.getD k [] = gk at *
      go_wp2_with fail
      refine (group_Valid hSg).mono ?_
      rintro e w1 ⟨rfl, hE1⟩
      go_wp2
      go_roundw
      case rel => exact ⟨k + 1, by omega, by go_num, hE.trans hE1⟩
      case measure => simp [intOf]; omega
    · obtain ⟨wo, rfl⟩ : ∃ wo : World, wo = wr := ⟨_, rfl⟩
      go_wp2
      go_loop [31] (fun i => ∃ k : Nat, k ≤ ng ∧ i = .int .i64 k) (fun i => ng - (intOf i).toNat)
      case atStart => exact ⟨0, Nat.zero_le _, rfl⟩
      case round =>
        clear hlt
        obtain ⟨k, hk, rfl⟩ := hrel
        by_cases hlt : k < ng
        · obtain ⟨bg, og, ag1, ng1, cg1, rfl, hcg, hSg⟩ := hgw.at hlt
          have hl : (gs.getD k []).length = n := (HP.out _ (by simp [List.getD_eq_getElem?_getD, HG.out, hlt])).2
          have hl2 : ng1 = n := by have := hSg.len; omega
          have hne : ((ng1 : Int) != (n : Int)) = false := by simp [hl2]
          clear hl hl2 hSg
          go_wp2
          go_round
          case rel => exact ⟨k + 1, by omega, by go_num⟩
          case measure => simp [intOf]; omega
        · go_wp2_with fail
          refine (group_closure hgw hn HP.out).mono ?_
          rintro e w1 ⟨r, L, rfl, hE1, hr, hM, hnd, hmem⟩
          have hL12 := H12.out L hnd hmem
          have hL1 : 0 < L.length := List.length_pos_of_mem ((hmem _).2 (reach_id gs n))
          go_wp2_with fail
          refine (group_sorted hM hn (fun x hx => (reach_perm hn HP.out ((hmem x).1 hx)).2) hL12 hL1).mono ?_
          rintro e w2 ⟨ps, ⟨a2, n2, c2, cells, rfl, hE2, hn2, hO2, hQ2⟩, hperm, hord⟩
          have HN2 := Lib.hid hn2
          clear hn2
          go_wp2
          go_ret2
          have hE3 := hE.trans hE1
          refine ⟨ps, ⟨a2, n2, c2, cells, rfl, hE3.trans hE2, HN2.out, Own.mono hO2 hE3.size, ?_⟩, hperm.nodup_iff.2 hnd, fun p => by rw [hperm.mem_iff, hmem], by rw [hperm.length_eq]; exact hord⟩
          intro i hi
          obtain ⟨a', n', c', h1, h2⟩ := hQ2 i hi
          exact ⟨a', n', c', h1, Own.mono h2 hE3.size⟩

/-- two lists in order with the same elements are one -/
theorem ord_unique {ps qs : List (List Int)} (hp : ps.Nodup) (hq : qs.Nodup) (h : ∀ x, x ∈ ps ↔ x ∈ qs) (op : ordOn ps 0 ps.length) (oq : ordOn qs 0 qs.length) : ps = qs := by
  have key : ∀ {l : List (List Int)}, ordOn l 0 l.length → l.Pairwise (fun a b => cmpL a b ≤ 0) := by
    intro l hl
    rw [List.pairwise_iff_getElem]
    intro i j hi hj hij
    have := hl i j (Nat.zero_le _) hij hj
    simpa [List.getD_eq_getElem?_getD, hi, hj] using this
  refine List.Perm.eq_of_pairwise ?_ (key op) (key oq) (perm_of_mem hp hq h)
  intro a b _ _ h1 h2
  have := cmpL_anti a b
  exact cmpL_eq (by omega)

def awG : List (List Int) := [[1, 2, 0]]
def awE : List (List Int) := [[0, 1, 2], [1, 2, 0], [2, 0, 1]]
theorem awReach (p : List Int) : p ∈ awE ↔ Reach awG 3 p := by
  constructor
  · intro h
    simp only [awE, List.mem_cons, List.not_mem_nil, or_false] at h
    rcases h with rfl | rfl | rfl
    · exact ⟨[], by simp, by decide⟩
    · exact ⟨[[1, 2, 0]], by simp [awG], by decide⟩
    · exact ⟨[[1, 2, 0], [1, 2, 0]], by simp [awG], by decide⟩
  · rintro ⟨ws, h1, rfl⟩
    induction ws with
    | nil => decide
    | cons g ws ih =>
      have hg : g = [1, 2, 0] := by simpa [awG] using h1 g (by simp)
      have := ih (fun x hx => h1 x (by simp [hx]))
      subst hg
      rw [List.foldr_cons]
      revert this
      generalize List.foldr comp (idn 3) ws = q
      intro this
      simp only [awE, List.mem_cons, List.not_mem_nil, or_false] at this
      rcases this with rfl | rfl | rfl <;> decide

end Go.Proofs.Ytegmbdkdgpeahaa
