/- The cycles of a permutation, and the contracts of the program's and the reference's Cycles. -/
import Derived.Test.YtegmbdkdgpeahaaGen
import Derived.Test.YtegmbdkdgpeahaaRef1
namespace Go.Proofs.Ytegmbdkdgpeahaa
open Go Go.RowKit

theorem nodup_leI : ∀ (L M : List Int), L.Nodup → (∀ x ∈ L, x ∈ M) → L.length ≤ M.length
  | [], _, _, _ => by simp
  | x :: L, M, hn, hs => by
    rw [List.nodup_cons] at hn
    have h1 := hs x (by simp)
    have h2 := nodup_leI L (M.erase x) hn.2 (fun y hy => (List.mem_erase_of_ne (by rintro rfl; exact hn.1 hy)).2 (hs y (by simp [hy])))
    have h3 := List.length_erase_of_mem h1
    have h4 := List.length_pos_of_mem h1
    simp only [List.length_cons]
    omega
/-- distinct numbers below n -/
def SetOK (n : Nat) (S : List Int) : Prop := S.Nodup ∧ ∀ x ∈ S, 0 ≤ x ∧ x < n
theorem SetOK.nil (n : Nat) : SetOK n [] := ⟨List.nodup_nil, by simp⟩
theorem SetOK.le {n : Nat} {S : List Int} (h : SetOK n S) : S.length ≤ n := by
  have := nodup_leI S (idn n) h.1 (fun x hx => mem_idn.2 (h.2 x hx))
  rwa [idn_len] at this
theorem SetOK.snoc {n : Nat} {S : List Int} {x : Int} (h : SetOK n S) (hx : x ∉ S) (h0 : 0 ≤ x) (h1 : x < n) : SetOK n (S ++ [x]) := by
  refine ⟨?_, ?_⟩
  · rw [List.nodup_append]
    refine ⟨h.1, by simp, ?_⟩
    intro a ha b hb
    simp only [List.mem_singleton] at hb
    subst hb
    rintro rfl
    exact hx ha
  · intro y hy
    rcases List.mem_append.1 hy with hy | hy
    · exact h.2 y hy
    · simp only [List.mem_singleton] at hy
      subst hy
      exact ⟨h0, h1⟩

/-- the numbers that are met from x until one of S -/
def cycW (xs : List Int) : Nat → List Int → Int → List Int
  | 0, _, _ => []
  | f + 1, S, x => if x ∈ S then [] else x :: cycW xs f (S ++ [x]) (xs.getD x.toNat 0)
theorem cyc_stop {xs S : List Int} {x : Int} (f : Nat) (h : x ∈ S) : cycW xs f S x = [] := by
  cases f with
  | zero => rfl
  | succ f => simp [cycW, h]
theorem cyc_go {n : Nat} {xs S : List Int} {x : Int} (h : x ∉ S) (hl : S.length < n) : cycW xs (n - S.length) S x = x :: cycW xs (n - (S ++ [x]).length) (S ++ [x]) (xs.getD x.toNat 0) := by
  have e : n - S.length = (n - (S ++ [x]).length) + 1 := by simp; omega
  rw [e]
  show (if x ∈ S then [] else _) = _
  rw [if_neg h]
/-- what is seen, and the cycles, after k starts -/
def cycTo (xs : List Int) : Nat → List Int × List (List Int)
  | 0 => ([], [])
  | k + 1 =>
    let c := cycW xs (xs.length - (cycTo xs k).1.length) (cycTo xs k).1 k
    ((cycTo xs k).1 ++ c, if c = [] then (cycTo xs k).2 else (cycTo xs k).2 ++ [c])
def cyclesS (xs : List Int) : List (List Int) × Int := if permB xs = true then ((cycTo xs xs.length).2, 0) else ([], 1)

def slLen : Value → Nat
  | .slice _ n _ => n
  | _ => 0

theorem grown_more {w w1 w2 : World} {s : Nat} {row : Option Nat} (h : w.grownBy w1 (some s)) (h2 : w1.grownBy w2 row) (hr : ∀ k, row = some k → w.heap.size ≤ k ∨ k = s) : w.grownBy w2 (some s) := by
  refine ⟨h2.os.trans h.os, h2.tape.trans h.tape, h2.output.trans h.output, Nat.le_trans h.size h2.size, fun k hk hne => ?_⟩
  rw [h2.block k (Nat.lt_of_lt_of_le hk h.size) (fun e => by
    rcases hr k e.symm with h3 | h3
    · omega
    · exact hne (by rw [h3])), h.block k hk hne]
theorem grown_set {w w1 : World} {s : Nat} (h : w.grownBy w1 (some s)) (j : Nat) (u : Value) : w.grownBy (w1.setCell ⟨s, j, none⟩ u) (some s) :=
  grown_more h (grown_setCell w1 s j u) (fun k hk => Or.inr (by simpa using hk.symm))
theorem grown_alloc {w w1 : World} {s : Nat} (h : w.grownBy w1 (some s)) (o : Obj) : w.grownBy (w1.alloc o) (some s) :=
  grown_more (row := none) h ⟨rfl, rfl, rfl, by simp, fun k hk _ => Below.heap_alloc w1 o k hk⟩ (by simp)

set_option maxHeartbeats 1000000 in
theorem group_Cycles {a : Option Addr} {n c : Nat} {xs : List Int} {w : World} (hx : SlI w a n c xs) :
    Calls Try.prog 26 #[.slice a n c] w (RetSE w (cyclesS xs).1 (cyclesS xs).2) := by
  have HX := Lib.hid hx.len
  have hnn := hx.le
  by_cases p1 : permB xs = true
  · have h6 : n ≤ 6 := by have := (perm_spec p1).1; have h := HX.out; omega
    have HS : Hid (cyclesS xs = ((cycTo xs xs.length).2, 0)) := by
      show cyclesS xs = _
      unfold cyclesS
      rw [if_pos p1]
    go_enter Try.func26, Try.ntmps26
    go_wp2_with fail
    refine (group_Valid hx).mono ?_
    rintro e w1 ⟨rfl, hE1⟩
    have hx1 := hx.ext hE1
    go_wp2
    go_loopw [5, 14] (fun v i wr => ∃ k : Nat, ∃ S os al nl cl cells, k ≤ n ∧ v = .slice al nl cl ∧ i = .int .i64 k ∧ cycTo xs k = (S, os) ∧ Ext w1 wr ∧ Arr wr w1.heap.size 61 (seenL S) ∧ SetOK n S ∧ nl = os.length ∧ nl ≤ k ∧
        Own wr (w1.heap.size + 1) 22 al nl cl cells ∧ QEl wr (w1.heap.size + 1) cells os) (fun _ i _ => n - (intOf i).toNat)
    case atStart => exact ⟨0, [], [], none, 0, 0, [], Nat.zero_le _, rfl, rfl, rfl, (Ext.refl w1).alloc _, Arr.new w1 _ (seenL []), SetOK.nil n, rfl, Nat.le_refl _, Own.nil _ _ _, by intro i hi; simp at hi⟩
    case round =>
      obtain ⟨k, S, os, al, nl, cl, cells, hk, rfl, rfl, hcT, hE, hA, hSok, hnl, hnk, hO, hQ⟩ := hrel
      have HCT := Lib.hid hcT
      have HNL := Lib.hid hnl
      clear hcT hnl
      by_cases hlt : k < n
      · have hs1 := hA.lt
        obtain ⟨wo, rfl⟩ : ∃ wo : World, wo = wr := ⟨_, rfl⟩
        go_wp2
        go_loopw [7, 8] (fun v i wr => ∃ (cy : List Int) (x : Int), ∃ a' n' c', v = .slice a' n' c' ∧ i = .int .i64 x ∧ 0 ≤ x ∧ x < n ∧ SetOK n (S ++ cy) ∧ Hid (cycW xs (n - S.length) S k = cy ++ cycW xs (n - (S ++ cy).length) (S ++ cy) x) ∧
          wo.grownBy wr (some w1.heap.size) ∧ Arr wr w1.heap.size 61 (seenL (S ++ cy)) ∧ Hid (n' = cy.length) ∧ OwnI wr wo.heap.size a' n' c' cy) (fun v _ _ => n - slLen v)
        case atStart => exact ⟨[], k, none, 0, 0, rfl, rfl, by omega, by omega, by simpa using hSok, Lib.hid (by simp), grown_refl _ _, by simpa using hA, Lib.hid rfl, Own.nil _ _ _⟩
        case round =>
          obtain ⟨cy, x, a', n', c', rfl, rfl, hx0, hxn, hok, HW, hgr, hAr, HN', hOc⟩ := hrel
          have hEr : Ext w1 wr := hE.grown hgr (by intro k hk; simp at hk; omega)
          have hcy := hAr.cell (i := x.toNat) (by rw [seenL_len]; omega)
          have hfy := hAr.frozen x.toNat
          rw [seenL_at _ (by omega), show ((x.toNat : Nat) : Int) = x from by omega] at hcy
          have hsz := hEr.size
          have hszo := hE.size
          have hszr := hgr.size
          by_cases hs : x ∈ S ++ cy
          · simp only [hs, decide_true] at hcy
            have HC : Hid (cycW xs (n - S.length) S k = cy) := by
              show _ = _
              rw [HW.out, cyc_stop _ hs, List.append_nil]
            have hO2 := hO.kept hgr (Or.inr (by intro e; have := (hO.lt e).1; omega))
            have hQ2 := hQ.kept hgr (fun a n c xs h => Or.inr (by intro e; have := (Own.lt h e).1; omega))
            have hc1 : OwnI wr (w1.heap.size + 1) a' n' c' cy := Own.mono hOc (by omega)
            have hT : Hid (cycTo xs (k + 1) = (S ++ cy, if cy = [] then os else os ++ [cy])) := by
              show _ = _
              rw [show cycTo xs (k + 1) = ((cycTo xs k).1 ++ cycW xs (xs.length - (cycTo xs k).1.length) (cycTo xs k).1 k, if cycW xs (xs.length - (cycTo xs k).1.length) (cycTo xs k).1 k = [] then (cycTo xs k).2 else (cycTo xs k).2 ++ [cycW xs (xs.length - (cycTo xs k).1.length) (cycTo xs k).1 k]) from rfl, HCT.out, HX.out]
              simp only
              rw [HC.out]
            by_cases hn0 : 0 < n'
            · have hce : cy ≠ [] := by intro e; have := HN'.out; simp [e] at this; omega
              have hA6 : Ext wr (wr.alloc (.cells #[.slice a' n' c'] 22)) := (Ext.refl wr).alloc _
              have hS6 := (own_alloc wr (w1.heap.size + 1) 22 #[.slice a' n' c'] 1 rfl (by omega) (by omega)).sl
              have hO6 := hO2.ext hA6
              go_wp2_with (refine wl_app rfl rfl Try.underlying35 info_ints rfl rfl hO6 rfl hS6 (by simp [Value.oneCell']) (by unfold maxLen; omega) (by omega) (by simp; omega) ?_; intro a7 c7 w7 hO7 hg7 hb7)
              go_roundw
              case rel =>
                have hx7 : ∀ k, blk al = some k → w1.heap.size ≤ k := fun k hk => by have := (hO6.lt hk).1; omega
                refine ⟨k + 1, S ++ cy, os ++ [cy], a7, nl + 1, c7, _, by omega, rfl, by go_num, by rw [hT.out, if_neg hce], (hEr.trans hA6).grown hg7 hx7, ?_, hok, by rw [HNL.out]; simp, by omega, hO7, ?_⟩
                · exact (hAr.alloc _).kept hg7 (by intro e; have := (hO6.lt e.symm).1; omega)
                · have hQ7 := (hQ2.ext hA6).kept hg7 (fun _ _ _ _ h => own_ne_own h hO6 (by decide))
                  have hB7 : OwnI w7 (w1.heap.size + 1) a' n' c' cy := Own.kept (Own.ext hc1 hA6) hg7 (own_ne_own (Own.ext hc1 hA6) hO6 (by decide))
                  exact hQ7.snoc (by rw [hO6.len, HNL.out]) hB7
              case measure => simp [intOf]; omega
            · have hce : cy = [] := by have := HN'.out; exact List.eq_nil_of_length_eq_zero (by omega)
              go_wp2
              go_roundw
              case rel => exact ⟨k + 1, S ++ cy, os, al, nl, cl, cells, by omega, rfl, by go_num, by rw [hT.out, if_pos hce], hEr, hAr, hok, HNL.out, by omega, hO2, hQ2⟩
              case measure => simp [intOf]; omega
          · simp only [hs, decide_false] at hcy
            have hxr := hx1.ext hEr
            have hroom : (S ++ cy).length < n := by
              have := (hok.snoc hs hx0 hxn).le
              simp at this ⊢
              omega
            have hcl : n' < n := by have := HN'.out; simp at hroom; omega
            have hnext := perm_at p1 (i := x.toNat) (by have := HX.out; omega)
            rw [HX.out] at hnext
            have HG := Lib.hid (cyc_go (xs := xs) hs hroom)
            obtain ⟨b2, o2, rfl, hc2⟩ := hxr.at (k := x.toNat) (by omega)
            have hrd : ∀ w3 : World, Ext w1 w3 → w3.cell? ⟨b2, o2 + x.toNat, none⟩ = some (.int .i64 (xs.getD x.toNat 0)) := by
              intro w3 h3
              obtain ⟨b3, o3, e3, hc3⟩ := (hx1.ext h3).at (k := x.toNat) (by omega)
              simp only [Option.some.injEq, Addr.mk.injEq, and_true] at e3
              rw [e3.1, e3.2]
              exact hc3 x.toNat (by omega)
            generalize xs.getD x.toNat 0 = y at *
            have hE2 : Ext w1 ((wr.setCell ⟨w1.heap.size, x.toNat, none⟩ (.bool true)).alloc (.cells #[.int .i64 x] 3)) := (hEr.setCell (Nat.le_refl _) _).alloc _
            have hA2 : Arr ((wr.setCell ⟨w1.heap.size, x.toNat, none⟩ (.bool true)).alloc (.cells #[.int .i64 x] 3)) w1.heap.size 61 (seenL (S ++ (cy ++ [x]))) := by
              have := hAr.set x.toNat (.bool true)
              rw [seenL_set _ hx0, List.append_assoc] at this
              exact this.alloc _
            have hO2 : Own ((wr.setCell ⟨w1.heap.size, x.toNat, none⟩ (.bool true)).alloc (.cells #[.int .i64 x] 3)) wo.heap.size 3 a' n' c' (cy.map (Value.int .i64)) :=
              Own.alloc (Own.kept hOc (grown_setCell wr w1.heap.size x.toNat (.bool true)) (Or.inr (by intro e; have := (Own.lt hOc e).1; omega))) _
            have hS2 := (own_alloc (wr.setCell ⟨w1.heap.size, x.toNat, none⟩ (.bool true)) wo.heap.size 3 #[.int .i64 x] 1 rfl (by simp; omega) (by omega)).sl
            have hz : (wr.setCell ⟨w1.heap.size, x.toNat, none⟩ (.bool true)).heap.size = wr.heap.size := by simp
            rw [hz] at hS2
            have hgr2 := grown_alloc (grown_set hgr x.toNat (.bool true)) (.cells #[.int .i64 x] 3)
            have hb2 : ∀ k, blk a' = some k → wo.heap.size ≤ k := fun k hk => (Own.lt hOc hk).1
            clear hc2 hx1 hx
            go_wp2_with (refine wl_app rfl rfl Try.underlying22 info_int rfl rfl hO2 rfl hS2 (by simp [Value.oneCell']) (by unfold maxLen; omega) (by omega) (by simp; omega) ?_; intro a3 c3 w3 hO3 hg3 hb3; have g3 := hrd w3 (hE2.grown hg3 (fun k hk => by have := hb2 k hk; omega)))
            go_roundw
            case rel =>
              refine ⟨cy ++ [x], y, a3, n' + 1, c3, rfl, rfl, hnext.1, hnext.2, by rw [← List.append_assoc]; exact hok.snoc hs hx0 hxn, ?_, grown_more hgr2 hg3 (fun k hk => Or.inl (hb2 k hk)), hA2.kept hg3 (by intro e; have := hb2 _ e.symm; omega), Lib.hid (by rw [HN'.out]; simp), ?_⟩
              · show _ = _
                rw [HW.out, HG.out]
                simp
              · unfold OwnI
                rw [List.map_append]
                exact hO3
            case measure => simp [slLen]; omega
      · have e : k = n := by omega
        go_wp2
        go_ret2
        rw [HS.out, HX.out, ← e, HCT.out]
        refine ⟨al, nl, cl, cells, rfl, hE1.trans hE, HNL.out, Own.mono hO (by have := hE1.size; omega), ?_⟩
        intro i hi
        obtain ⟨a', n', c', h1, h2⟩ := hQ i hi
        exact ⟨a', n', c', h1, Own.mono h2 (by have := hE1.size; omega)⟩
  · have p1' : permB xs = false := by simpa using p1
    have HS : Hid (cyclesS xs = ([], 1)) := by
      show cyclesS xs = ([], 1)
      unfold cyclesS
      rw [if_neg p1]
    go_enter Try.func26, Try.ntmps26
    go_wp2_with fail
    refine (group_Valid hx).mono ?_
    rintro e w1 ⟨rfl, hE1⟩
    go_wp2
    go_ret2
    rw [HS.out]
    exact ⟨none, 0, 0, [], rfl, hE1, rfl, Own.nil _ _ _, by intro i hi; simp at hi⟩

set_option maxHeartbeats 1000000 in
theorem ref_Cycles {a : Option Addr} {n c : Nat} {xs : List Int} {w : World} (hx : SlI w a n c xs) :
    Calls Try.prog 27 #[.slice a n c] w (RetSE w (cyclesS xs).1 (cyclesS xs).2) := by
  have HX := Lib.hid hx.len
  have hnn := hx.le
  by_cases p1 : permB xs = true
  · have h6 : n ≤ 6 := by have := (perm_spec p1).1; have h := HX.out; omega
    have HS : Hid (cyclesS xs = ((cycTo xs xs.length).2, 0)) := by
      show cyclesS xs = _
      unfold cyclesS
      rw [if_pos p1]
    go_enter Try.func27, Try.ntmps27
    go_wp2_with fail
    refine (ref_Valid hx).mono ?_
    rintro e w1 ⟨rfl, hE1⟩
    have hx1 := hx.ext hE1
    go_wp2_with (at_make; refine wl_mk rfl rfl Try.underlying62 info_bool rfl rfl rfl (by omega) (by unfold maxLen; omega) ?_; intro w2 hO2 hE2)
    go_loopw [4, 6] (fun v i wr => ∃ k : Nat, ∃ S os al nl cl cells, k ≤ n ∧ v = .slice al nl cl ∧ i = .int .i64 k ∧ cycTo xs k = (S, os) ∧ Ext w1 wr ∧ Own wr w1.heap.size 4 (some ⟨w1.heap.size, 0, none⟩) n n (seenN n S) ∧ SetOK n S ∧ nl = os.length ∧ nl ≤ k ∧
        Own wr (w1.heap.size + 1) 22 al nl cl cells ∧ QEl wr (w1.heap.size + 1) cells os) (fun _ i _ => n - (intOf i).toNat)
    case atStart => exact ⟨0, [], [], none, 0, 0, [], Nat.zero_le _, rfl, rfl, rfl, hE2, by rw [seenN_nil]; exact hO2, SetOK.nil n, rfl, Nat.le_refl _, Own.nil _ _ _, by intro i hi; simp at hi⟩
    case round =>
      clear hO2 hE2
      obtain ⟨k, S, os, al, nl, cl, cells, hk, rfl, rfl, hcT, hE, hA, hSok, hnl, hnk, hO, hQ⟩ := hrel
      have HCT := Lib.hid hcT
      have HNL := Lib.hid hnl
      clear hcT hnl
      by_cases hlt : k < n
      · have hs1 := (Own.lt hA rfl).2
        obtain ⟨wo, rfl⟩ : ∃ wo : World, wo = wr := ⟨_, rfl⟩
        go_wp2
        go_loopw [7, 8] (fun v i wr => ∃ (cy : List Int) (x : Int), ∃ a' n' c', v = .slice a' n' c' ∧ i = .int .i64 x ∧ 0 ≤ x ∧ x < n ∧ SetOK n (S ++ cy) ∧ Hid (cycW xs (n - S.length) S k = cy ++ cycW xs (n - (S ++ cy).length) (S ++ cy) x) ∧
          wo.grownBy wr (some w1.heap.size) ∧ Own wr w1.heap.size 4 (some ⟨w1.heap.size, 0, none⟩) n n (seenN n (S ++ cy)) ∧ Hid (n' = cy.length) ∧ OwnI wr wo.heap.size a' n' c' cy) (fun v _ _ => n - slLen v)
        case atStart => exact ⟨[], k, none, 0, 0, rfl, rfl, by omega, by omega, by simpa using hSok, Lib.hid (by simp), grown_refl _ _, by simpa using hA, Lib.hid rfl, Own.nil _ _ _⟩
        case round =>
          obtain ⟨cy, x, a', n', c', rfl, rfl, hx0, hxn, hok, HW, hgr, hAr, HN', hOc⟩ := hrel
          have hEr : Ext w1 wr := hE.grown hgr (by intro k hk; simp at hk; omega)
          have hcy := Own.cellAt hAr (j := x.toNat) (by omega)
          have hfy := Own.frozenAt hAr x.toNat
          rw [seenN_at _ (by omega), show ((x.toNat : Nat) : Int) = x from by omega] at hcy
          have hsz := hEr.size
          have hszo := hE.size
          have hszr := hgr.size
          by_cases hs : x ∈ S ++ cy
          · simp only [hs, decide_true] at hcy
            have HC : Hid (cycW xs (n - S.length) S k = cy) := by
              show _ = _
              rw [HW.out, cyc_stop _ hs, List.append_nil]
            have hO2 := hO.kept hgr (Or.inr (by intro e; have := (hO.lt e).1; omega))
            have hQ2 := hQ.kept hgr (fun a n c xs h => Or.inr (by intro e; have := (Own.lt h e).1; omega))
            have hc1 : OwnI wr (w1.heap.size + 1) a' n' c' cy := Own.mono hOc (by omega)
            have hT : Hid (cycTo xs (k + 1) = (S ++ cy, if cy = [] then os else os ++ [cy])) := by
              show _ = _
              rw [show cycTo xs (k + 1) = ((cycTo xs k).1 ++ cycW xs (xs.length - (cycTo xs k).1.length) (cycTo xs k).1 k, if cycW xs (xs.length - (cycTo xs k).1.length) (cycTo xs k).1 k = [] then (cycTo xs k).2 else (cycTo xs k).2 ++ [cycW xs (xs.length - (cycTo xs k).1.length) (cycTo xs k).1 k]) from rfl, HCT.out, HX.out]
              simp only
              rw [HC.out]
            by_cases hn0 : 0 < n'
            · have hce : cy ≠ [] := by intro e; have := HN'.out; simp [e] at this; omega
              have hA6 : Ext wr (wr.alloc (.cells #[.slice a' n' c'] 22)) := (Ext.refl wr).alloc _
              have hS6 := (own_alloc wr (w1.heap.size + 1) 22 #[.slice a' n' c'] 1 rfl (by omega) (by omega)).sl
              have hO6 := hO2.ext hA6
              go_wp2_with (refine wl_app rfl rfl Try.underlying35 info_ints rfl rfl hO6 rfl hS6 (by simp [Value.oneCell']) (by unfold maxLen; omega) (by omega) (by simp; omega) ?_; intro a7 c7 w7 hO7 hg7 hb7)
              go_roundw
              case rel =>
                have hx7 : ∀ k, blk al = some k → w1.heap.size ≤ k := fun k hk => by have := (hO6.lt hk).1; omega
                refine ⟨k + 1, S ++ cy, os ++ [cy], a7, nl + 1, c7, _, by omega, rfl, by go_num, by rw [hT.out, if_neg hce], (hEr.trans hA6).grown hg7 hx7, ?_, hok, by rw [HNL.out]; simp, by omega, hO7, ?_⟩
                · exact Own.kept (Own.alloc hAr _) hg7 (Or.inr (by intro e; have := (hO6.lt e.symm).1; simp only at this; omega))
                · have hQ7 := (hQ2.ext hA6).kept hg7 (fun _ _ _ _ h => own_ne_own h hO6 (by decide))
                  have hB7 : OwnI w7 (w1.heap.size + 1) a' n' c' cy := Own.kept (Own.ext hc1 hA6) hg7 (own_ne_own (Own.ext hc1 hA6) hO6 (by decide))
                  exact hQ7.snoc (by rw [hO6.len, HNL.out]) hB7
              case measure => simp [intOf]; omega
            · have hce : cy = [] := by have := HN'.out; exact List.eq_nil_of_length_eq_zero (by omega)
              go_wp2
              go_roundw
              case rel => exact ⟨k + 1, S ++ cy, os, al, nl, cl, cells, by omega, rfl, by go_num, by rw [hT.out, if_pos hce], hEr, hAr, hok, HNL.out, by omega, hO2, hQ2⟩
              case measure => simp [intOf]; omega
          · simp only [hs, decide_false] at hcy
            have hxr := hx1.ext hEr
            have hroom : (S ++ cy).length < n := by
              have := (hok.snoc hs hx0 hxn).le
              simp at this ⊢
              omega
            have hcl : n' < n := by have := HN'.out; simp at hroom; omega
            have hnext := perm_at p1 (i := x.toNat) (by have := HX.out; omega)
            rw [HX.out] at hnext
            have HG := Lib.hid (cyc_go (xs := xs) hs hroom)
            obtain ⟨b2, o2, rfl, hc2⟩ := hxr.at (k := x.toNat) (by omega)
            have hrd : ∀ w3 : World, Ext w1 w3 → w3.cell? ⟨b2, o2 + x.toNat, none⟩ = some (.int .i64 (xs.getD x.toNat 0)) := by
              intro w3 h3
              obtain ⟨b3, o3, e3, hc3⟩ := (hx1.ext h3).at (k := x.toNat) (by omega)
              simp only [Option.some.injEq, Addr.mk.injEq, and_true] at e3
              rw [e3.1, e3.2]
              exact hc3 x.toNat (by omega)
            generalize xs.getD x.toNat 0 = y at *
            have hE2 : Ext w1 ((wr.setCell ⟨w1.heap.size, x.toNat, none⟩ (.bool true)).alloc (.cells #[.int .i64 x] 3)) := (hEr.setCell (Nat.le_refl _) _).alloc _
            have hA2 : Own ((wr.setCell ⟨w1.heap.size, x.toNat, none⟩ (.bool true)).alloc (.cells #[.int .i64 x] 3)) w1.heap.size 4 (some ⟨w1.heap.size, 0, none⟩) n n (seenN n (S ++ (cy ++ [x]))) := by
              have := Own.stored hAr x.toNat (.bool true)
              rw [seenN_set _ _ hx0, List.append_assoc] at this
              exact Own.alloc this _
            have hO2 : Own ((wr.setCell ⟨w1.heap.size, x.toNat, none⟩ (.bool true)).alloc (.cells #[.int .i64 x] 3)) wo.heap.size 3 a' n' c' (cy.map (Value.int .i64)) :=
              Own.alloc (Own.kept hOc (grown_setCell wr w1.heap.size x.toNat (.bool true)) (Or.inr (by intro e; have := (Own.lt hOc e).1; omega))) _
            have hS2 := (own_alloc (wr.setCell ⟨w1.heap.size, x.toNat, none⟩ (.bool true)) wo.heap.size 3 #[.int .i64 x] 1 rfl (by simp; omega) (by omega)).sl
            have hz : (wr.setCell ⟨w1.heap.size, x.toNat, none⟩ (.bool true)).heap.size = wr.heap.size := by simp
            rw [hz] at hS2
            have hgr2 := grown_alloc (grown_set hgr x.toNat (.bool true)) (.cells #[.int .i64 x] 3)
            have hb2 : ∀ k, blk a' = some k → wo.heap.size ≤ k := fun k hk => (Own.lt hOc hk).1
            clear hc2 hx1 hx
            go_wp2_with (refine wl_app rfl rfl Try.underlying22 info_int rfl rfl hO2 rfl hS2 (by simp [Value.oneCell']) (by unfold maxLen; omega) (by omega) (by simp; omega) ?_; intro a3 c3 w3 hO3 hg3 hb3; have g3 := hrd w3 (hE2.grown hg3 (fun k hk => by have := hb2 k hk; omega)))
            go_roundw
            case rel =>
              refine ⟨cy ++ [x], y, a3, n' + 1, c3, rfl, rfl, hnext.1, hnext.2, by rw [← List.append_assoc]; exact hok.snoc hs hx0 hxn, ?_, grown_more hgr2 hg3 (fun k hk => Or.inl (hb2 k hk)), Own.kept hA2 hg3 (Or.inr (by intro e; have := hb2 _ e.symm; simp only at this; omega)), Lib.hid (by rw [HN'.out]; simp), ?_⟩
              · show _ = _
                rw [HW.out, HG.out]
                simp
              · unfold OwnI
                rw [List.map_append]
                exact hO3
            case measure => simp [slLen]; omega
      · have e : k = n := by omega
        go_wp2
        go_ret2
        rw [HS.out, HX.out, ← e, HCT.out]
        refine ⟨al, nl, cl, cells, rfl, hE1.trans hE, HNL.out, Own.mono hO (by have := hE1.size; omega), ?_⟩
        intro i hi
        obtain ⟨a', n', c', h1, h2⟩ := hQ i hi
        exact ⟨a', n', c', h1, Own.mono h2 (by have := hE1.size; omega)⟩
  · have p1' : permB xs = false := by simpa using p1
    have HS : Hid (cyclesS xs = ([], 1)) := by
      show cyclesS xs = ([], 1)
      unfold cyclesS
      rw [if_neg p1]
    go_enter Try.func27, Try.ntmps27
    go_wp2_with fail
    refine (ref_Valid hx).mono ?_
    rintro e w1 ⟨rfl, hE1⟩
    go_wp2
    go_ret2
    rw [HS.out]
    exact ⟨none, 0, 0, [], rfl, hE1, rfl, Own.nil _ _ _, by intro i hi; simp at hi⟩

end Go.Proofs.Ytegmbdkdgpeahaa
