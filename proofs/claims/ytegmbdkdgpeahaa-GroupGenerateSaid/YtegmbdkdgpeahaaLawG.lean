/- The contract of the law GroupLaws: it returns true. -/
import Derived.Test.YtegmbdkdgpeahaaAwake
namespace Go.Proofs.Ytegmbdkdgpeahaa
open Go Go.RowKit

theorem brute2 : ∀ n, n < 7 → ∀ xs ∈ gen n (idn n), permB (invTo xs xs.length) = true := by decide +kernel

theorem perm_gen {xs : List Int} (h : permB xs = true) : xs.length < 7 ∧ xs ∈ gen xs.length (idn xs.length) := by
  have hp := perm_spec h
  exact ⟨by have := hp.1; omega, mem_gen _ _ _ rfl hp.2.2 (fun x hx => mem_idn.2 (hp.2.1 x hx))⟩

theorem inv_perm {xs : List Int} (h : permB xs = true) : permB (invTo xs xs.length) = true :=
  brute2 _ (perm_gen h).1 _ (perm_gen h).2

theorem invTo_len (xs : List Int) : ∀ k, (invTo xs k).length = xs.length
  | 0 => by simp [invTo]
  | k + 1 => by simp [invTo, invTo_len xs k]

/-- Compose at two permutations of one length -/
theorem Compose_ok {a b : Option Addr} {n c d : Nat} {xs ys : List Int} {w : World} (hx : SlI w a n c xs) (hy : SlI w b n d ys) (p1 : permB xs = true) (p2 : permB ys = true) :
    Calls Try.prog 11 #[.slice a n c, .slice b n d] w (fun e w' => ∃ a' c', e = .returned (.tuple #[.slice a' n c', .int .i64 0]) ∧ Ext w w' ∧ SlI w' a' n c' (comp xs ys)) := by
  refine (group_Compose hx hy).mono ?_
  have hl : xs.length = ys.length := hx.len.trans hy.len.symm
  have hs : composeS xs ys = (comp xs ys, 0) := by unfold composeS; rw [if_pos ⟨p1, p2⟩, if_pos hl]
  rw [hs]
  rintro e w1 ⟨a1, n1, c1, rfl, hE, hO⟩
  have hn : n1 = n := by have := hO.sl.len; rw [comp_len, hy.len] at this; exact this.symm
  subst hn
  exact ⟨a1, c1, rfl, hE, hO.sl⟩

theorem Inverse_ok {a : Option Addr} {n c : Nat} {xs : List Int} {w : World} (hx : SlI w a n c xs) (p1 : permB xs = true) :
    Calls Try.prog 12 #[.slice a n c] w (fun e w' => ∃ a' c', e = .returned (.tuple #[.slice a' n c', .int .i64 0]) ∧ Ext w w' ∧ SlI w' a' n c' (invTo xs xs.length)) := by
  refine (group_Inverse hx).mono ?_
  have hs : inverseS xs = (invTo xs xs.length, 0) := by unfold inverseS; rw [if_pos p1]
  rw [hs]
  rintro e w1 ⟨a1, n1, c1, rfl, hE, hO⟩
  have hn : n1 = n := by have := hO.sl.len; rw [invTo_len, hx.len] at this; exact this.symm
  subst hn
  exact ⟨a1, c1, rfl, hE, hO.sl⟩

theorem Order_ok {a : Option Addr} {n c : Nat} {xs : List Int} {w : World} (hx : SlI w a n c xs) (p1 : permB xs = true) :
    Calls Try.prog 13 #[.slice a n c] w (fun e w' => e = .returned (.tuple #[.int .i64 (ordS xs), .int .i64 0]) ∧ Ext w w') := by
  refine (group_Order hx).mono ?_
  have hs : orderS xs = ((ordS xs : Int), 0) := by unfold orderS; rw [if_pos p1]
  rw [hs]
  exact fun e w1 h => h

/-- the law's permutation, for a length of at most six -/
theorem permutation_ok {a : Option Addr} {n c m : Nat} {xs : List Int} {w : World} (hx : SlI w a n c xs) (hm : m ≤ 6) :
    Calls Try.prog 10 #[.slice a n c, .int .i64 m] w (fun e w' => ∃ a' c' p, e = .returned (.slice a' m c') ∧ Ext w w' ∧ SlI w' a' m c' p ∧ permB p = true ∧ p.length = m) := by
  refine (law_permutation hx (by omega)).mono ?_
  rintro e w1 ⟨a1, n1, c1, rfl, hE, hO⟩
  have hn : n1 = m := by have := hO.sl.len; rw [perml_len] at this; exact this.symm
  subst hn
  exact ⟨a1, c1, _, rfl, hE, hO.sl, perml_perm xs hm, perml_len xs _⟩

theorem mod7 (n : Int) : ∃ m : Nat, n % 7 = (m : Int) ∧ m ≤ 6 := ⟨(n % 7).toNat, by omega, by omega⟩

set_option maxRecDepth 10000 in
set_option maxHeartbeats 2000000 in
theorem law_GroupLaws {a b c : Option Addr} {na nb nc ca cb cc : Nat} {xs ys zs : List Int} {n : Int} {w : World} (hx : SlI w a na ca xs) (hy : SlI w b nb cb ys) (hz : SlI w c nc cc zs) :
    Calls Try.prog 3 #[.slice a na ca, .slice b nb cb, .slice c nc cc, .int .i64 n] w fun e w' => e = .returned (.bool true) ∧ Ext w w' := by
  go_enter Try.func3, Try.ntmps3
  go_wp2_with fail
  have s1 := lit_slL (w := w) (cs := #[.slice a na ca, .slice b nb cb, .slice c nc cc]) (xss := [xs, ys, zs]) (n := 3) rfl (by omega) rfl (by
      intro i hi
      have : i = 0 ∨ i = 1 ∨ i = 2 := by omega
      rcases this with rfl | rfl | rfl
      · exact ⟨_, _, _, rfl, hx⟩
      · exact ⟨_, _, _, rfl, hy⟩
      · exact ⟨_, _, _, rfl, hz⟩)
  refine (law_few s1).mono ?_
  rintro e w1 ⟨rfl, rfl⟩
  have hE1 : Ext w (w.alloc (.cells #[.slice a na ca, .slice b nb cb, .slice c nc cc] 22)) := (Ext.refl w).alloc _
  obtain ⟨w1, e1⟩ : ∃ w1 : World, w1 = w.alloc (.cells #[.slice a na ca, .slice b nb cb, .slice c nc cc] 22) := ⟨_, rfl⟩
  rw [← e1] at hE1 ⊢
  clear e1 s1
  generalize hfw : [xs, ys, zs].all (fun x => decide (x.length ≤ 20)) = fw
  clear hfw
  cases fw with
  | false =>
    go_wp2_with fail
    refine law_awake.mono ?_
    rintro e w2 ⟨rfl, hE2⟩
    go_wp2
    go_ret
    exact ⟨rfl, hE1.trans hE2⟩
  | true =>
    go_wp2_with fail
    refine (keep_Mod (by omega) (by omega)).mono ?_
    rintro e w2 ⟨rfl, rfl⟩
    obtain ⟨m, hm, hm6⟩ := mod7 n
    rw [hm]
    clear hm
    go_wp2_with fail
    refine (permutation_ok (hx.ext hE1) hm6).mono ?_
    rintro e w2 ⟨a2, c2, p, rfl, hE2, hp, pp, pl⟩
    have PL := Lib.hid pl
    clear pl
    have hE := hE1.trans hE2
    clear hE1 hE2
    go_wp2_with fail
    refine (permutation_ok (hy.ext hE) hm6).mono ?_
    rintro e w3 ⟨a3, c3, q, rfl, hE3, hq, pq, ql⟩
    have QL := Lib.hid ql
    clear ql
    have hp := hp.ext hE3
    have hE := hE.trans hE3
    clear hE3
    go_wp2_with fail
    refine (permutation_ok (hz.ext hE) hm6).mono ?_
    rintro e w4 ⟨a4, c4, r, rfl, hE4, hr, pr, rl⟩
    have RL := Lib.hid rl
    clear rl
    have hp := hp.ext hE4
    have hq := hq.ext hE4
    have hE := hE.trans hE4
    clear hE4 hx hy hz
    go_wp2_with fail
    refine (Compose_ok hp hq pp pq).mono ?_
    rintro e w5 ⟨a5, c5, rfl, hE5, h5⟩
    have hp := hp.ext hE5
    have hq := hq.ext hE5
    have hr := hr.ext hE5
    have hE := hE.trans hE5
    clear hE5
    go_wp2_with fail
    refine (Compose_ok hq hr pq pr).mono ?_
    rintro e w6 ⟨a6, c6, rfl, hE6, h6⟩
    have hp := hp.ext hE6
    have hr := hr.ext hE6
    have h5 := h5.ext hE6
    have hE := hE.trans hE6
    clear hE6 hq
    have pc5 : permB (comp p q) = true := comp_perm pp pq (by rw [PL.out, QL.out])
    have pc6 : permB (comp q r) = true := comp_perm pq pr (by rw [RL.out, QL.out])
    go_wp2_with fail
    refine (Compose_ok h5 hr pc5 pr).mono ?_
    rintro e w7 ⟨a7, c7, rfl, hE7, h7⟩
    have hp := hp.ext hE7
    have h6 := h6.ext hE7
    have hE := hE.trans hE7
    clear hE7 hr h5
    go_wp2_with fail
    refine (Compose_ok hp h6 pp pc6).mono ?_
    rintro e w8 ⟨a8, c8, rfl, hE8, h8⟩
    have hp := hp.ext hE8
    have h7 := h7.ext hE8
    have hE := hE.trans hE8
    clear hE8 h6
    have hass : comp (comp p q) r = comp p (comp q r) := comp_assoc (by
      intro y hy
      have := (perm_spec pr).2.1 y hy
      rw [RL.out] at this
      rw [QL.out]
      exact this)
    rw [hass] at h7
    clear hass pc5 pc6
    go_wp2_with fail
    refine (Inverse_ok hp pp).mono ?_
    rintro e w9 ⟨a9, c9, rfl, hE9, h9⟩
    have hp := hp.ext hE9
    have h7 := h7.ext hE9
    have h8 := h8.ext hE9
    have hE := hE.trans hE9
    clear hE9
    go_wp2_with fail
    refine (Compose_ok hp h9 pp (inv_perm pp)).mono ?_
    rintro e w10 ⟨a10, c10, rfl, hE10, h10⟩
    have hp := hp.ext hE10
    have h7 := h7.ext hE10
    have h8 := h8.ext hE10
    have hE := hE.trans hE10
    clear hE10 h9
    rw [inv_right pp, PL.out] at h10
    go_wp2_with fail
    refine (Order_ok hp pp).mono ?_
    rintro e w11 ⟨rfl, hE11⟩
    have hp := hp.ext hE11
    have h7 := h7.ext hE11
    have h8 := h8.ext hE11
    have h10 := h10.ext hE11
    have hE := hE.trans hE11
    clear hE11
    obtain ⟨o1, o2, o3, o4⟩ := ord_spec pp
    rw [PL.out] at o3 o4
    have O3 := Lib.hid o3
    have O4 := Lib.hid o4
    clear o3 o4
    generalize ordS p = od at *
    go_wp2_with fail
    refine (keep_Ints h7 h8).mono ?_
    rintro e w12 ⟨rfl, hQ12⟩
    have hd : decide (comp p (comp q r) = comp p (comp q r)) = true := by simp
    rw [hd]
    have hp := hp.ext hQ12.ext
    have h10 := h10.ext hQ12.ext
    have hE := hE.trans hQ12.ext
    clear hQ12 h7 h8 hd
    go_wp2_with fail
    clear o1 o2 pq pr QL RL
    go_loopw [10, 23, 24] (fun er v i wr => ∃ t : Nat, ∃ a' c', t ≤ od ∧ er = .int .i64 0 ∧ v = .slice a' m c' ∧ i = .int .i64 t ∧ Ext w12 wr ∧ SlI wr a' m c' (pw p t)) (fun _ _ i _ => od - (intOf i).toNat)
    case atStart => exact ⟨0, _, _, Nat.zero_le _, rfl, rfl, rfl, Ext.refl _, by rw [show pw p 0 = idn p.length from rfl, PL.out]; exact h10⟩
    case round =>
      obtain ⟨t, a', c', ht, rfl, rfl, rfl, hEr, hP⟩ := hrel
      by_cases hlt : t < od
      · have hmm : ((m : Int) != (m : Int)) = false := by simp
        by_cases h0 : 0 < t
        · have hd : decide (pw p t = idn m) = false := by simp [O4.out t h0 hlt]
          go_wp2_with fail
          refine (keep_Ints hP (h10.ext hEr)).mono ?_
          rintro e w13 ⟨rfl, hQ13⟩
          rw [hd]
          have hE13 := hEr.trans hQ13.ext
          have hP := hP.ext hQ13.ext
          clear hQ13
          go_wp2_with fail
          refine (Compose_ok (hp.ext hE13) hP pp (pw_perm pp t)).mono ?_
          rintro e w14 ⟨a14, c14, rfl, hE14, h14⟩
          go_wp2
          go_roundw
          case rel => exact ⟨t + 1, _, _, by omega, rfl, rfl, by go_num, hE13.trans hE14, h14⟩
          case measure => simp [intOf]; omega
        · go_wp2_with fail
          refine (Compose_ok (hp.ext hEr) hP pp (pw_perm pp t)).mono ?_
          rintro e w14 ⟨a14, c14, rfl, hE14, h14⟩
          go_wp2
          go_roundw
          case rel => exact ⟨t + 1, _, _, by omega, rfl, rfl, by go_num, hEr.trans hE14, h14⟩
          case measure => simp [intOf]; omega
      · have et : t = od := by omega
        rw [et, O3.out] at hP
        clear et
        have hT := h10.ext hEr
        obtain ⟨wo, rfl⟩ : ∃ wo : World, wo = wr := ⟨_, rfl⟩
        go_wp2
        go_loop [25] (fun i => ∃ k : Nat, k ≤ m ∧ i = .int .i64 k) (fun i => m - (intOf i).toNat)
        case atStart => exact ⟨0, Nat.zero_le _, rfl⟩
        case round =>
          obtain ⟨k, hk, rfl⟩ := hrel
          by_cases hkm : k < m
          · obtain ⟨b1, o1, rfl, g1⟩ := hT.at hkm
            have g2 := g1 k hkm
            rw [idn_getD hkm] at g2
            clear g1
            have hkk : ((k : Int) != (k : Int)) = false := by simp
            go_wp2
            go_round
            case rel => exact ⟨k + 1, by omega, by go_num⟩
            case measure => simp [intOf]; omega
          · go_wp2_with fail
            refine (keep_Ints hP hT).mono ?_
            rintro e w13 ⟨rfl, hQ13⟩
            have hd : decide (idn m = idn m) = true := by simp
            rw [hd]
            go_wp2_with fail
            refine law_awake.mono ?_
            rintro e w14 ⟨rfl, hE14⟩
            go_wp2
            go_ret
            exact ⟨rfl, ((hE.trans hEr).trans hQ13.ext).trans hE14⟩

end Go.Proofs.Ytegmbdkdgpeahaa
