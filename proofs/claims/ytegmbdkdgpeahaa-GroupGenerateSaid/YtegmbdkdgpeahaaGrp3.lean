/- The contract of permutation. -/
import Derived.Test.YtegmbdkdgpeahaaGrp2
import Derived.Test.YtegmbdkdgpeahaaObl
import Derived.Deep.DeepCutAuto
import Derived.Deep.CutBlock
namespace Go.Proofs.Ytegmbdkdgpeahaa
open Go Go.RowKit

/-- the place where the next number goes -/
def plc (l : List Int) (i : Nat) : Nat := if i < l.length then (l.getD i 0 % (i + 1 : Int)).toNat else 0
/-- what permutation returns -/
def perml (l : List Int) : Nat → List Int
  | 0 => []
  | i + 1 => (perml l i).take (plc l i) ++ [(i : Int)] ++ (perml l i).drop (plc l i)
theorem perml_len (l : List Int) (n : Nat) : (perml l n).length = n := by
  induction n with
  | zero => rfl
  | succ i ih => simp [perml, ih]; omega
theorem plc_le (l : List Int) (i : Nat) : plc l i ≤ i := by
  unfold plc
  split
  · have h1 := Int.emod_lt_of_pos (l.getD i 0) (show (0 : Int) < i + 1 by omega)
    have h2 := Int.emod_nonneg (l.getD i 0) (show (i + 1 : Int) ≠ 0 by omega)
    omega
  · omega

set_option maxHeartbeats 400000 in
theorem law_permutation {a : Option Addr} {n c m : Nat} {xs : List Int} {w : World} (hx : SlI w a n c xs) (hm : m ≤ 1000) :
    Calls Try.prog 10 #[.slice a n c, .int .i64 m] w (RetI w (perml xs m)) := by
  have hnn := hx.le
  go_enter Try.func10, Try.ntmps10
  go_wp2
  go_loopw [5, 6] (fun v i wr => ∃ k : Nat, ∃ a' c', k ≤ m ∧ i = .int .i64 k ∧ v = .slice a' k c' ∧ Ext w wr ∧ OwnI wr w.heap.size a' k c' (perml xs k)) (fun _ i _ => m - (intOf i).toNat)
  case atStart => exact ⟨0, none, 0, Nat.zero_le _, rfl, rfl, Ext.refl _, Own.nil _ _ _⟩
  case round =>
    obtain ⟨k, a', c', hk, rfl, rfl, hE, hO⟩ := hrel
    have hx := hx.ext hE
    by_cases hlt : k < m
    · go_upto_block 1 with (fail)
      go_cut [5] (fun s5 wx => ∃ a2 c2, s5 = .slice a2 (k + 1) c2 ∧ Ext w wx ∧ OwnI wx w.heap.size a2 (k + 1) c2 (perml xs (k + 1)))
      case rest =>
        obtain ⟨a2, c2, rfl, hE2, hO2⟩ := hcut
        go_wp2
        go_roundw
        case rel => exact ⟨k+1, _, _, by omega, by go_num, rfl, hE2, hO2⟩
        case measure => simp [intOf]; omega
      go_upto_if 16 with (fail)
      go_cut [7] (fun s7 wx => ∃ q : Nat, s7 = .int .i64 q ∧ q = plc xs k ∧ wx = wr)
      case first =>
        by_cases hkn : k < n
        · obtain ⟨b1, o1, rfl, hc1⟩ := hx.at hkn
          have g1 := hc1 k hkn
          have e1 : (((xs.getD k 0 % ((k : Int) + 1)).toNat : Nat) : Int) = xs.getD k 0 % ((k : Int) + 1) := by
            have := Int.emod_nonneg (xs.getD k 0) (show (k + 1 : Int) ≠ 0 by omega)
            omega
          have e2 : (xs.getD k 0 % ((k : Int) + 1)).toNat = plc xs k := by
            unfold plc
            rw [if_pos (by have := hx.len; omega)]
          have E1 := Lib.hid e1
          have E2 := Lib.hid e2
          clear hc1 e1 e2
          go_wp2_with (go_at_call 9; refine (keep_Mod (by omega) (by omega)).mono ?_; rintro e w1 ⟨rfl, rfl⟩)
          go_meet
          refine ⟨_, ?_, E2.out, rfl⟩
          rw [E1.out]
          simp [List.getD_eq_getElem?_getD]
        · have e1 : plc xs k = 0 := by
            unfold plc
            rw [if_neg (by have := hx.len; omega)]
          have E1 := Lib.hid e1
          clear e1
          go_wp2
          go_meet
          exact ⟨0, rfl, E1.out.symm, rfl⟩
      case rest =>
        obtain ⟨q, rfl, hq, rfl⟩ := hcut
        have hqk : q ≤ k := by rw [hq]; exact plc_le xs k
        have HQ := Lib.hid hq
        clear hq
        have hcap := Own.cap hO
        have hz := hE.size
        go_upto_region 8 with (fail)
        have hqc : q ≤ c' := by omega
        have hsO := Own.sl hO
        have hpl : (perml xs k).length = k := perml_len xs k
        have hbase : ∀ wx, Ext wc wx → wc.heap.size ≤ wx.heap.size := fun wx e => e.size
        refine wp_region_typed (by kernel_rfl) (fun wx => Ext wc wx)
          [hu 4 (fun v wx => ∃ g, v = .slice (some ⟨g, 0, none⟩) 0 0 ∧ Own wx wc.heap.size 3 (some ⟨g, 0, none⟩) 0 0 []),
           he (.slice a' k c'), he (.int .i64 q), he (.slice a' q c'),
           hmu 7 (fun v wx => ∃ a1 c1, v = .slice a1 q c1 ∧ Own wx wc.heap.size 3 a1 q c1 (((perml xs k).map (Value.int .i64)).take q)),
           he (.int .i64 k), hu 7 (fun v wx => ∃ g, v = .slice (some ⟨g, 0, none⟩) 1 1 ∧ Own wx wc.heap.size 3 (some ⟨g, 0, none⟩) 1 1 [.int .i64 k]),
           hmu 11 (fun v wx => ∃ a1 c1, v = .slice a1 (q + 1) c1 ∧ Own wx wc.heap.size 3 a1 (q + 1) c1 (((perml xs k).map (Value.int .i64)).take q ++ [.int .i64 k])),
           he (.slice a' k c'), he (.int .i64 q), he (.slice (if c' = q then a' else a'.map (fun x => x.add q)) (k - q) (c' - q)),
           hmp (fun v wx => ∃ a1 c1, v = .slice a1 (k + 1) c1 ∧ Own wx wc.heap.size 3 a1 (k + 1) c1 ((perml xs (k + 1)).map (Value.int .i64)))]
          (by kernel_rfl) (fun _ _ e h => h.trans e) ((Ext.refl wc).drew) ?stab ⟨?o0, ?o1, ?o2, ?o3, ?o4, ?o5, ?o6, ?o7, ?o8, ?o9, ?o10, ?o11, trivial⟩ ?fin
        case stab =>
          exact ⟨fun v w w' e ⟨g, h1, h2⟩ => ⟨g, h1, h2.ext e⟩, trivial, trivial, trivial, fun v w w' e ⟨g, c, h1, h2⟩ => ⟨g, c, h1, h2.ext e⟩, trivial, fun v w w' e ⟨g, h1, h2⟩ => ⟨g, h1, h2.ext e⟩,
            fun v w w' e ⟨g, c, h1, h2⟩ => ⟨g, c, h1, h2.ext e⟩, trivial, trivial, trivial, fun v w w' e ⟨g, c, h1, h2⟩ => ⟨g, c, h1, h2.ext e⟩, trivial⟩
        case o0 => exact obl_lit0 rfl rfl Try.underlying22 info_int hbase
        case o1 => exact obl_move rfl rfl (fun _ _ _ h => h.1)
        case o2 => exact obl_move rfl rfl (fun _ _ _ h => h.1)
        case o3 => exact obl_slice_to rfl rfl Try.underlying22 info_int (fun _ _ _ h => ⟨h.1, h.2.1⟩) hqc
        case o4 =>
          refine obl_app rfl rfl Try.underlying22 info_int rfl (n := 0) (m := q) (fun u hu => ints_one _ u (List.mem_of_mem_take hu)) (by omega) (by unfold maxLen; omega) (by omega) (List.nil_append _) hbase ?_
          rintro ρ wx hp hC ⟨⟨v0, e0, g, rfl, hO0⟩, h1, -⟩
          refine ⟨_, _, _, _, e0, hO0, h1, (hsO.ext hC).upto hqk, fun w' hg => ⟨hC.grown hg ?_, ?_⟩⟩
          · intro k hk
            exact (Own.lt hO0 hk).1
          · refine keeps_one (j := 6) (by kernel_rfl) ?_
            rintro v ⟨g6, rfl, hO6⟩
            exact ⟨g6, rfl, Own.kept hO6 hg (Or.inr (by simpa [blk] using Ne.symm (own_ne hO0 hO6 (by omega))))⟩
        case o5 => exact obl_move rfl rfl (fun _ _ _ h => h.1)
        case o6 => exact obl_lit1 rfl rfl Try.underlying22 info_int rfl rfl hbase (fun _ _ _ h => h.1)
        case o7 =>
          refine obl_app rfl rfl Try.underlying22 info_int rfl (n := q) (m := 1) (news := [.int .i64 k]) (by simp [Value.oneCell']) rfl (by unfold maxLen; omega) (by omega) rfl hbase ?_
          rintro ρ wx hp hC ⟨⟨v0, e0, a1, c1, rfl, hO1⟩, ⟨v1, e1, g, rfl, hO6⟩, -⟩
          refine ⟨_, _, _, _, e0, hO1, e1, hO6.sl, fun w' hg => ⟨hC.grown hg ?_, keeps_none (by kernel_rfl)⟩⟩
          intro k hk
          exact (Own.lt hO1 hk).1
        case o8 => exact obl_move rfl rfl (fun _ _ _ h => h.1)
        case o9 => exact obl_move rfl rfl (fun _ _ _ h => h.1)
        case o10 => exact obl_slice_from rfl rfl Try.underlying22 info_int (fun _ _ _ h => ⟨h.1, h.2.1⟩) hqk
        case o11 =>
          refine obl_app rfl rfl Try.underlying22 info_int rfl (n := q + 1) (m := k - q) (xs := ((perml xs k).map (Value.int .i64)).take q ++ [.int .i64 k]) (news := ((perml xs k).map (Value.int .i64)).drop q) (fun u hu => ints_one _ u (List.mem_of_mem_drop hu)) (by omega) (by unfold maxLen; omega) (by omega) ?_ hbase ?_
          · have := HQ.out
            subst this
            simp [perml]
          rintro ρ wx hp hC ⟨⟨v0, e0, a1, c1, rfl, hO1⟩, e1, -⟩
          refine ⟨_, _, _, _, e0, hO1, e1, (hsO.ext hC).from hqk, fun w' hg => ⟨hC.grown hg ?_, keeps_none (by kernel_rfl)⟩⟩
          intro k hk
          exact (Own.lt hO1 hk).1
        case fin =>
          intro wx hC
          rintro v0 v4 v6 v7 v11 ⟨a1, c1, rfl, hO1⟩
          simp only [List.length_cons, List.length_nil, List.drop_succ_cons, List.drop_zero, Act.put, List.setIfInBounds_toArray, List.set_cons_succ, List.set_cons_zero, After_nil]
          go_wp2
          all_goals
            go_meet
            exact ⟨_, _, rfl, hE.trans hC, Own.mono hO1 hE.size⟩
    · have e : k = m := by omega
      go_wp2
      go_ret
      subst e
      exact ⟨_, _, _, rfl, hE, hO⟩

end Go.Proofs.Ytegmbdkdgpeahaa
