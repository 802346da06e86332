/- What it is to be a group in strict order, and the contract of the reference's IsGroup. -/
import Derived.Test.YtegmbdkdgpeahaaRclo2
import Derived.Test.YtegmbdkdgpeahaaObl2
namespace Go.Proofs.Ytegmbdkdgpeahaa
open Go Go.RowKit

/-- a list of permutations in strict order that holds all that it generates -/
structure isG (l : List (List Int)) : Prop where
  pos : 0 < l.length
  perms : PermsN l (l.getD 0 []).length
  sort : sortS l
  closed : ∀ p, Reach l (l.getD 0 []).length p → p ∈ l
noncomputable def isGB (l : List (List Int)) : Bool := @decide (isG l) (Classical.propDecidable _)
theorem isGB_true {l : List (List Int)} (h : isG l) : isGB l = true := by
  unfold isGB
  exact @decide_eq_true _ (Classical.propDecidable _) h
theorem isGB_false {l : List (List Int)} (h : ¬ isG l) : isGB l = false := by
  unfold isGB
  exact @decide_eq_false _ (Classical.propDecidable _) h

theorem brute3 : ∀ n, n < 7 → ∀ xs ∈ gen n (idn n), cmpL (idn n) xs ≤ 0 := by decide +kernel
theorem perm_gen' {xs : List Int} (h : permB xs = true) : xs.length < 7 ∧ xs ∈ gen xs.length (idn xs.length) := by
  have hp := perm_spec h
  exact ⟨by have := hp.1; omega, mem_gen _ _ _ rfl hp.2.2 (fun x hx => mem_idn.2 (hp.2.1 x hx))⟩
theorem getD_mem {l : List (List Int)} {i : Nat} (h : i < l.length) : l.getD i [] ∈ l := by
  rw [List.getD_eq_getElem?_getD, List.getElem?_eq_getElem h]
  exact List.getElem_mem h
theorem mem_getD {l : List (List Int)} {p : List Int} (h : p ∈ l) : ∃ i, i < l.length ∧ l.getD i [] = p := by
  obtain ⟨i, hi, e⟩ := List.mem_iff_getElem.1 h
  exact ⟨i, hi, by rw [List.getD_eq_getElem?_getD, List.getElem?_eq_getElem hi]; exact e⟩

theorem isG.first {l : List (List Int)} (h : isG l) : l.getD 0 [] = idn (l.getD 0 []).length := by
  have h0 := h.perms _ (getD_mem h.pos)
  obtain ⟨i, hi, e⟩ := mem_getD (h.closed _ (reach_id l _))
  rcases Nat.eq_zero_or_pos i with hz | hz
  · subst hz
    exact e
  · have h1 := h.sort 0 i hz hi
    have h2 := perm_gen' h0.1
    have h3 := brute3 _ h2.1 _ h2.2
    rw [e] at h1
    have h4 := cmpL_anti (l.getD 0 []) (idn (l.getD 0 []).length)
    omega
theorem isG.few {l : List (List Int)} (h : isG l) : l.length ≤ 720 := by
  have h0 := h.perms _ (getD_mem h.pos)
  have h2 := perm_gen' h0.1
  refine Nat.le_trans (nodup_le l (gen _ (idn (l.getD 0 []).length)) h.sort.nodup fun p hp => ?_) (gen_len _ h2.1)
  obtain ⟨h3, h4⟩ := h.perms p hp
  have := perm_gen' h3
  rw [h4] at this
  exact this.2
theorem isG_of {l : List (List Int)} (h0 : 0 < l.length) (h1 : l.getD 0 [] = idn (l.getD 0 []).length) (h2 : PermsN l (l.getD 0 []).length) (h3 : sortS l)
    (h4 : ∀ i k, i < l.length → k < l.length → comp (l.getD i []) (l.getD k []) ∈ l) : isG l := by
  refine ⟨h0, h2, h3, ?_⟩
  rintro p ⟨ws, hw, rfl⟩
  induction ws with
  | nil =>
    rw [List.foldr_nil, ← h1]
    exact getD_mem h0
  | cons g ws ih =>
    obtain ⟨i, hi, e⟩ := mem_getD (hw g (by simp))
    obtain ⟨k, hk, e2⟩ := mem_getD (ih (fun x hx => hw x (by simp [hx])))
    rw [List.foldr_cons, ← e, ← e2]
    exact h4 i k hi hk
theorem isG.comp {l : List (List Int)} (h : isG l) {i k : Nat} (hi : i < l.length) (hk : k < l.length) : comp (l.getD i []) (l.getD k []) ∈ l := by
  refine h.closed _ ⟨[l.getD i [], l.getD k []], ?_, ?_⟩
  · intro g hg
    simp only [List.mem_cons, List.not_mem_nil, or_false] at hg
    rcases hg with rfl | rfl
    · exact getD_mem hi
    · exact getD_mem hk
  · have hl := (h.perms _ (getD_mem hk)).2
    rw [List.foldr_cons, List.foldr_cons, List.foldr_nil, ← hl, comp_idn]

/-- the first k are permutations of one length in strict order -/
structure okTo (l : List (List Int)) (k : Nat) : Prop where
  perms : ∀ i, i < k → permB (l.getD i []) = true ∧ (l.getD i []).length = (l.getD 0 []).length
  sort : ∀ i j, i < j → j < k → cmpL (l.getD i []) (l.getD j []) < 0
theorem okTo.one {l : List (List Int)} (h : permB (l.getD 0 []) = true) : okTo l 1 :=
  ⟨fun i hi => by have : i = 0 := by omega
                  subst this; exact ⟨h, rfl⟩, fun i j h1 h2 => by omega⟩
theorem okTo.succ {l : List (List Int)} {k : Nat} (h : okTo l (k + 1)) (hp : permB (l.getD (k + 1) []) = true ∧ (l.getD (k + 1) []).length = (l.getD 0 []).length) (hl : cmpL (l.getD k []) (l.getD (k + 1) []) < 0) : okTo l (k + 2) := by
  refine ⟨fun i hi => ?_, fun i j h1 h2 => ?_⟩
  · by_cases he : i = k + 1
    · subst he; exact hp
    · exact h.perms i (by omega)
  · by_cases he : j = k + 1
    · subst he
      by_cases hi : i = k
      · subst hi; exact hl
      · exact cmpL_lt_trans (h.sort i k (by omega) (by omega)) hl
    · exact h.sort i j h1 (by omega)
theorem okTo.all {l : List (List Int)} {k : Nat} (h : okTo l k) (hk : l.length ≤ k) : PermsN l (l.getD 0 []).length ∧ sortS l := by
  refine ⟨fun g hg => ?_, fun i j h1 h2 => h.sort i j h1 (by omega)⟩
  obtain ⟨i, hi, rfl⟩ := mem_getD hg
  exact h.perms i (by omega)

/-- where a list belongs -/
noncomputable def posL (l : List (List Int)) (p : List Int) : Nat := @Classical.epsilon _ ⟨0⟩ (fun k => k ≤ l.length ∧ plI l p k k)
theorem plI_unique {l : List (List Int)} {p : List Int} {k j : Nat} (hk : k ≤ l.length) (hj : j ≤ l.length) (h1 : plI l p k k) (h2 : plI l p j j) : k = j := by
  rcases Nat.lt_trichotomy k j with h | h | h
  · exact absurd (h2.1 k h) (h1.2 k (Nat.le_refl _) (by omega))
  · exact h
  · exact absurd (h1.1 j h) (h2.2 j (Nat.le_refl _) (by omega))
theorem posL_eq {l : List (List Int)} {p : List Int} {k : Nat} (hk : k ≤ l.length) (h : plI l p k k) : k = posL l p := by
  have := @Classical.epsilon_spec _ (fun k => k ≤ l.length ∧ plI l p k k) ⟨k, hk, h⟩
  exact plI_unique hk this.1 h this.2
theorem ref_place' {a b : Option Addr} {n c m d : Nat} {ls : List (List Int)} {p : List Int} {w : World} (hx : SlL w a n c ls) (hy : SlI w b m d p) (hs : sortS ls) (hn6 : n ≤ 1000000) :
    Calls Try.prog 41 #[.slice a n c, .slice b m d] w fun e w' => e = .returned (.tuple #[.int .i64 (posL ls p), .bool (decide (p ∈ ls))]) ∧ Qt w w' := by
  refine (ref_place hx hy hs hn6).mono ?_
  rintro e w1 ⟨k, rfl, hQ, hk, hpl⟩
  rw [posL_eq (by rw [hx.len]; exact hk) hpl]
  exact ⟨rfl, hQ⟩

set_option maxRecDepth 10000 in
set_option maxHeartbeats 8000000 in
theorem ref_IsGroup {a : Option Addr} {n c : Nat} {ls : List (List Int)} {w : World} (hx : SlL w a n c ls) :
    Calls Try.prog 19 #[.slice a n c] w (fun e w' => e = .returned (.bool (isGB ls)) ∧ Ext w w') := by
  have HX := Lib.hid hx.len
  have hnn := hx.le
  go_enter Try.func19, Try.ntmps19
  go_upto_region 1 with (fail)
  go_cut [34] (fun s wx => ∃ b, s = .bool b ∧ Ext w wx ∧ Hid (b = false → 0 < n ∧ n ≤ 720 ∧ permB (ls.getD 0 []) = true ∧ ls.getD 0 [] = idn (ls.getD 0 []).length) ∧ Hid (b = true → ¬ isG ls))
  case first =>
    by_cases h0 : n = 0
    · subst h0
      refine wp_region_typed (by kernel_rfl) (fun wx => Ext w wx)
        [he (.slice a 0 c),
   he (.int .i64 0),
   he (.bool true),
   he (.bool true),
   he undef,
   he undef,
   he undef,
   he undef,
   he undef,
   he (.bool true),
   he (.bool true),
   he undef,
   he undef,
   he undef,
   he (.bool true),
   he (.bool true),
   he undef,
   he undef,
   he undef,
   he undef,
   he undef,
   he undef,
   he undef,
   he undef,
   he undef,
   he undef,
   he (.bool true)]
        (by kernel_rfl) (fun _ _ e h => h.trans e) ((Ext.refl w).drew) ⟨trivial, trivial, trivial, trivial, trivial, trivial, trivial, trivial, trivial, trivial, trivial, trivial, trivial, trivial, trivial, trivial, trivial, trivial, trivial, trivial, trivial, trivial, trivial, trivial, trivial, trivial, trivial, trivial⟩ ⟨?o0, ?o1, ?o2, ?o3, ?o4, ?o5, ?o6, ?o7, ?o8, ?o9, ?o10, ?o11, ?o12, ?o13, ?o14, ?o15, ?o16, ?o17, ?o18, ?o19, ?o20, ?o21, ?o22, ?o23, ?o24, ?o25, ?o26, trivial⟩ ?fin
      case o0 => exact obl_pmove rfl (.inl rfl) (fun _ _ _ h => h.1)
      case o1 =>
        refine obl_pure rfl ?_
        intro ρ wx hp hC h
        have hcst := hp.const
        have e0 : ρ (.tmp 8) = (.slice a 0 c) := h.1
        go_simp
      case o2 =>
        refine obl_pure rfl ?_
        intro ρ wx hp hC h
        have hcst := hp.const
        have e0 : ρ (.tmp 9) = (.int .i64 0) := h.1
        go_simp
        try (first | (intros; omega) | exact IntWalk.i64_in _ (by omega))
      case o3 => exact obl_pmove rfl (.inl rfl) (fun _ _ _ h => h.1)
      case o4 => exact obl_none rfl
      case o5 => exact obl_none rfl
      case o6 => exact obl_none rfl
      case o7 => exact obl_none rfl
      case o8 => exact obl_none rfl
      case o9 =>
        refine obl_pure rfl ?_
        intro ρ wx hp hC h
        have hcst := hp.const
        have e0 : ρ (.tmp 11) = (.bool true) := h.1
        have e2 : ρ (.tmp 16) = undef := h.2.2.1
        go_simp
      case o10 => exact obl_pmove rfl (.inl rfl) (fun _ _ _ h => h.1)
      case o11 => exact obl_none rfl
      case o12 => exact obl_none rfl
      case o13 => exact obl_none rfl
      case o14 =>
        refine obl_pure rfl ?_
        intro ρ wx hp hC h
        have hcst := hp.const
        have e0 : ρ (.tmp 18) = (.bool true) := h.1
        have e2 : ρ (.tmp 21) = undef := h.2.2.1
        go_simp
      case o15 => exact obl_pmove rfl (.inl rfl) (fun _ _ _ h => h.1)
      case o16 => exact obl_none rfl
      case o17 => exact obl_none rfl
      case o18 => exact obl_none rfl
      case o19 => exact obl_none rfl
      case o20 => exact obl_none rfl
      case o21 => exact obl_none rfl
      case o22 => exact obl_none rfl
      case o23 => exact obl_none rfl
      case o24 => exact obl_none rfl
      case o25 => exact obl_none rfl
      case o26 =>
        refine obl_pure rfl ?_
        intro ρ wx hp hC h
        have hcst := hp.const
        have e0 : ρ (.tmp 23) = (.bool true) := h.1
        have e2 : ρ (.tmp 33) = undef := h.2.2.1
        go_simp
      case fin =>
        intro wx hC
        change wpList _ _ _ _ _ _
        simp only [List.length_cons, List.length_nil, List.drop_succ_cons, List.drop_zero, Act.put, List.setIfInBounds_toArray, List.set_cons_succ, List.set_cons_zero]
        go_wp2
        go_meet
        exact ⟨true, rfl, hC, Lib.hid (fun h => by cases h), Lib.hid (fun _ h => by have := h.pos; rw [HX.out] at this; omega)⟩
    · obtain ⟨b1, o1, a1, n1, c1, rfl, g0, s1⟩ := hx.at (k := 0) (by omega)
      have g1 : w.cell? ⟨b1, o1, none⟩ = some (.slice a1 n1 c1) := g0
      clear g0
      cases hv0 : permB (ls.getD 0 []) with
      | false =>
        refine wp_region_typed (by kernel_rfl) (fun wx => Ext w wx)
          [he (.slice (some ⟨b1, o1, none⟩) n c),
   he (.int .i64 n),
   he (.bool false),
   he (.bool false),
   he (.slice (some ⟨b1, o1, none⟩) n c),
   he (.pointer (some ⟨b1, o1, none⟩)),
   he (.slice a1 n1 c1),
   hp (fun v wx => v = .bool false),
   he (.bool true),
   he (.bool true),
   he (.bool true),
   he undef,
   he undef,
   he undef,
   he (.bool true),
   he (.bool true),
   he undef,
   he undef,
   he undef,
   he undef,
   he undef,
   he undef,
   he undef,
   he undef,
   he undef,
   he undef,
   he (.bool true)]
          (by kernel_rfl) (fun _ _ e h => h.trans e) ((Ext.refl w).drew) ⟨trivial, trivial, trivial, trivial, trivial, trivial, trivial, fun v w w' e h => h, trivial, trivial, trivial, trivial, trivial, trivial, trivial, trivial, trivial, trivial, trivial, trivial, trivial, trivial, trivial, trivial, trivial, trivial, trivial, trivial⟩ ⟨?o0, ?o1, ?o2, ?o3, ?o4, ?o5, ?o6, ?o7, ?o8, ?o9, ?o10, ?o11, ?o12, ?o13, ?o14, ?o15, ?o16, ?o17, ?o18, ?o19, ?o20, ?o21, ?o22, ?o23, ?o24, ?o25, ?o26, trivial⟩ ?fin
        case o0 => exact obl_pmove rfl (.inl rfl) (fun _ _ _ h => h.1)
        case o1 =>
          refine obl_pure rfl ?_
          intro ρ wx hp hC h
          have hcst := hp.const
          have e0 : ρ (.tmp 8) = (.slice (some ⟨b1, o1, none⟩) n c) := h.1
          have hgc := hC.cell g1
          have hsc := s1.ext hC
          go_simp
        case o2 =>
          refine obl_pure rfl ?_
          intro ρ wx hp hC h
          have hcst := hp.const
          have e0 : ρ (.tmp 9) = (.int .i64 n) := h.1
          have hgc := hC.cell g1
          have hsc := s1.ext hC
          go_simp
          try (first | (intros; omega) | exact IntWalk.i64_in _ (by omega))
        case o3 => exact obl_pmove rfl (.inl rfl) (fun _ _ _ h => h.1)
        case o4 => exact obl_pmove rfl (.inl rfl) (fun _ _ _ h => h.1)
        case o5 =>
          refine obl_pure rfl ?_
          intro ρ wx hp hC h
          have hcst := hp.const
          have e0 : ρ (.tmp 12) = (.slice (some ⟨b1, o1, none⟩) n c) := h.1
          have hgc := hC.cell g1
          have hsc := s1.ext hC
          go_simp
          try (first | (intros; omega) | exact IntWalk.i64_in _ (by omega))
        case o6 =>
          refine obl_pure rfl ?_
          intro ρ wx hp hC h
          have hcst := hp.const
          have e0 : ρ (.tmp 13) = (.pointer (some ⟨b1, o1, none⟩)) := h.1
          have hgc := hC.cell g1
          have hsc := s1.ext hC
          go_simp
        case o7 =>
          refine obl_call rfl ?_
          intro ρ wx hp hC h
          have hcst := hp.const
          have hfn := hp.func
          have e1 : ρ (.tmp 14) = (.slice a1 n1 c1) := h.2.1
          have hgc := hC.cell g1
          have hsc := s1.ext hC
          refine ⟨24, #[.slice a1 n1 c1], by go_simp, (ref_Valid hsc).mono ?_⟩
          rintro e w' ⟨rfl, hE'⟩
          exact ⟨_, rfl, hE', by rw [hv0]⟩
        case o8 =>
          refine obl_pure rfl ?_
          intro ρ wx hp hC h
          have hcst := hp.const
          obtain ⟨v0, e0, rfl⟩ := h.1
          have hgc := hC.cell g1
          have hsc := s1.ext hC
          go_simp
        case o9 =>
          refine obl_pure rfl ?_
          intro ρ wx hp hC h
          have hcst := hp.const
          have e0 : ρ (.tmp 11) = (.bool false) := h.1
          have e2 : ρ (.tmp 16) = (.bool true) := h.2.2.1
          have hgc := hC.cell g1
          have hsc := s1.ext hC
          go_simp
        case o10 => exact obl_pmove rfl (.inl rfl) (fun _ _ _ h => h.1)
        case o11 => exact obl_none rfl
        case o12 => exact obl_none rfl
        case o13 => exact obl_none rfl
        case o14 =>
          refine obl_pure rfl ?_
          intro ρ wx hp hC h
          have hcst := hp.const
          have e0 : ρ (.tmp 18) = (.bool true) := h.1
          have e2 : ρ (.tmp 21) = undef := h.2.2.1
          have hgc := hC.cell g1
          have hsc := s1.ext hC
          go_simp
        case o15 => exact obl_pmove rfl (.inl rfl) (fun _ _ _ h => h.1)
        case o16 => exact obl_none rfl
        case o17 => exact obl_none rfl
        case o18 => exact obl_none rfl
        case o19 => exact obl_none rfl
        case o20 => exact obl_none rfl
        case o21 => exact obl_none rfl
        case o22 => exact obl_none rfl
        case o23 => exact obl_none rfl
        case o24 => exact obl_none rfl
        case o25 => exact obl_none rfl
        case o26 =>
          refine obl_pure rfl ?_
          intro ρ wx hp hC h
          have hcst := hp.const
          have e0 : ρ (.tmp 23) = (.bool true) := h.1
          have e2 : ρ (.tmp 33) = undef := h.2.2.1
          have hgc := hC.cell g1
          have hsc := s1.ext hC
          go_simp
        case fin =>
          intro wx hC
          rintro _ rfl
          change wpList _ _ _ _ _ _
          simp only [List.length_cons, List.length_nil, List.drop_succ_cons, List.drop_zero, Act.put, List.setIfInBounds_toArray, List.set_cons_succ, List.set_cons_zero]
          go_wp2
          go_meet
          exact ⟨true, rfl, hC, Lib.hid (fun h => by cases h), Lib.hid (fun _ h => by have := (h.perms _ (getD_mem h.pos)).1; rw [hv0] at this; cases this)⟩
      | true =>
        by_cases h7 : 720 < (n : Int)
        ·
          refine wp_region_typed (by kernel_rfl) (fun wx => Ext w wx)
            [he (.slice (some ⟨b1, o1, none⟩) n c),
   he (.int .i64 n),
   he (.bool false),
   he (.bool false),
   he (.slice (some ⟨b1, o1, none⟩) n c),
   he (.pointer (some ⟨b1, o1, none⟩)),
   he (.slice a1 n1 c1),
   hp (fun v wx => v = .bool true),
   he (.bool false),
   he (.bool false),
   he (.bool false),
   he (.slice (some ⟨b1, o1, none⟩) n c),
   he (.int .i64 n),
   he (.bool true),
   he (.bool true),
   he (.bool true),
   he undef,
   he undef,
   he undef,
   he undef,
   he undef,
   he undef,
   he undef,
   he undef,
   he undef,
   he undef,
   he (.bool true)]
            (by kernel_rfl) (fun _ _ e h => h.trans e) ((Ext.refl w).drew) ⟨trivial, trivial, trivial, trivial, trivial, trivial, trivial, fun v w w' e h => h, trivial, trivial, trivial, trivial, trivial, trivial, trivial, trivial, trivial, trivial, trivial, trivial, trivial, trivial, trivial, trivial, trivial, trivial, trivial, trivial⟩ ⟨?o0, ?o1, ?o2, ?o3, ?o4, ?o5, ?o6, ?o7, ?o8, ?o9, ?o10, ?o11, ?o12, ?o13, ?o14, ?o15, ?o16, ?o17, ?o18, ?o19, ?o20, ?o21, ?o22, ?o23, ?o24, ?o25, ?o26, trivial⟩ ?fin
          case o0 => exact obl_pmove rfl (.inl rfl) (fun _ _ _ h => h.1)
          case o1 =>
            refine obl_pure rfl ?_
            intro ρ wx hp hC h
            have hcst := hp.const
            have e0 : ρ (.tmp 8) = (.slice (some ⟨b1, o1, none⟩) n c) := h.1
            have hgc := hC.cell g1
            have hsc := s1.ext hC
            go_simp
          case o2 =>
            refine obl_pure rfl ?_
            intro ρ wx hp hC h
            have hcst := hp.const
            have e0 : ρ (.tmp 9) = (.int .i64 n) := h.1
            have hgc := hC.cell g1
            have hsc := s1.ext hC
            go_simp
            try (first | (intros; omega) | exact IntWalk.i64_in _ (by omega))
          case o3 => exact obl_pmove rfl (.inl rfl) (fun _ _ _ h => h.1)
          case o4 => exact obl_pmove rfl (.inl rfl) (fun _ _ _ h => h.1)
          case o5 =>
            refine obl_pure rfl ?_
            intro ρ wx hp hC h
            have hcst := hp.const
            have e0 : ρ (.tmp 12) = (.slice (some ⟨b1, o1, none⟩) n c) := h.1
            have hgc := hC.cell g1
            have hsc := s1.ext hC
            go_simp
            try (first | (intros; omega) | exact IntWalk.i64_in _ (by omega))
          case o6 =>
            refine obl_pure rfl ?_
            intro ρ wx hp hC h
            have hcst := hp.const
            have e0 : ρ (.tmp 13) = (.pointer (some ⟨b1, o1, none⟩)) := h.1
            have hgc := hC.cell g1
            have hsc := s1.ext hC
            go_simp
          case o7 =>
            refine obl_call rfl ?_
            intro ρ wx hp hC h
            have hcst := hp.const
            have hfn := hp.func
            have e1 : ρ (.tmp 14) = (.slice a1 n1 c1) := h.2.1
            have hgc := hC.cell g1
            have hsc := s1.ext hC
            refine ⟨24, #[.slice a1 n1 c1], by go_simp, (ref_Valid hsc).mono ?_⟩
            rintro e w' ⟨rfl, hE'⟩
            exact ⟨_, rfl, hE', by rw [hv0]⟩
          case o8 =>
            refine obl_pure rfl ?_
            intro ρ wx hp hC h
            have hcst := hp.const
            obtain ⟨v0, e0, rfl⟩ := h.1
            have hgc := hC.cell g1
            have hsc := s1.ext hC
            go_simp
          case o9 =>
            refine obl_pure rfl ?_
            intro ρ wx hp hC h
            have hcst := hp.const
            have e0 : ρ (.tmp 11) = (.bool false) := h.1
            have e2 : ρ (.tmp 16) = (.bool false) := h.2.2.1
            have hgc := hC.cell g1
            have hsc := s1.ext hC
            go_simp
          case o10 => exact obl_pmove rfl (.inl rfl) (fun _ _ _ h => h.1)
          case o11 => exact obl_pmove rfl (.inl rfl) (fun _ _ _ h => h.1)
          case o12 =>
            refine obl_pure rfl ?_
            intro ρ wx hp hC h
            have hcst := hp.const
            have e0 : ρ (.tmp 19) = (.slice (some ⟨b1, o1, none⟩) n c) := h.1
            have hgc := hC.cell g1
            have hsc := s1.ext hC
            go_simp
          case o13 =>
            refine obl_pure rfl ?_
            intro ρ wx hp hC h
            have hcst := hp.const
            have e0 : ρ (.tmp 20) = (.int .i64 n) := h.1
            have hgc := hC.cell g1
            have hsc := s1.ext hC
            go_simp
            try (first | (intros; omega) | exact IntWalk.i64_in _ (by omega))
          case o14 =>
            refine obl_pure rfl ?_
            intro ρ wx hp hC h
            have hcst := hp.const
            have e0 : ρ (.tmp 18) = (.bool false) := h.1
            have e2 : ρ (.tmp 21) = (.bool true) := h.2.2.1
            have hgc := hC.cell g1
            have hsc := s1.ext hC
            go_simp
          case o15 => exact obl_pmove rfl (.inl rfl) (fun _ _ _ h => h.1)
          case o16 => exact obl_none rfl
          case o17 => exact obl_none rfl
          case o18 => exact obl_none rfl
          case o19 => exact obl_none rfl
          case o20 => exact obl_none rfl
          case o21 => exact obl_none rfl
          case o22 => exact obl_none rfl
          case o23 => exact obl_none rfl
          case o24 => exact obl_none rfl
          case o25 => exact obl_none rfl
          case o26 =>
            refine obl_pure rfl ?_
            intro ρ wx hp hC h
            have hcst := hp.const
            have e0 : ρ (.tmp 23) = (.bool true) := h.1
            have e2 : ρ (.tmp 33) = undef := h.2.2.1
            have hgc := hC.cell g1
            have hsc := s1.ext hC
            go_simp
          case fin =>
            intro wx hC
            rintro _ rfl
            change wpList _ _ _ _ _ _
            simp only [List.length_cons, List.length_nil, List.drop_succ_cons, List.drop_zero, Act.put, List.setIfInBounds_toArray, List.set_cons_succ, List.set_cons_zero]
            go_wp2
            go_meet
            exact ⟨true, rfl, hC, Lib.hid (fun h => by cases h), Lib.hid (fun _ h => by have := h.few; rw [HX.out] at this; omega)⟩
        · have hn1 : n1 ≤ 6 := by have := (perm_spec hv0).1; have := s1.len; omega
          obtain ⟨bq, hbq⟩ : ∃ bq, decide (ls.getD 0 [] = idn n1) = bq := ⟨_, rfl⟩
          refine wp_region_typed (by kernel_rfl) (fun wx => Ext w wx)
            [he (.slice (some ⟨b1, o1, none⟩) n c),
   he (.int .i64 n),
   he (.bool false),
   he (.bool false),
   he (.slice (some ⟨b1, o1, none⟩) n c),
   he (.pointer (some ⟨b1, o1, none⟩)),
   he (.slice a1 n1 c1),
   hp (fun v wx => v = .bool true),
   he (.bool false),
   he (.bool false),
   he (.bool false),
   he (.slice (some ⟨b1, o1, none⟩) n c),
   he (.int .i64 n),
   he (.bool false),
   he (.bool false),
   he (.bool false),
   he (.slice (some ⟨b1, o1, none⟩) n c),
   he (.pointer (some ⟨b1, o1, none⟩)),
   he (.slice a1 n1 c1),
   he (.slice (some ⟨b1, o1, none⟩) n c),
   he (.pointer (some ⟨b1, o1, none⟩)),
   he (.slice a1 n1 c1),
   he (.int .i64 n1),
   hp (fun v wx => ∃ a' n' c', v = .slice a' n' c' ∧ SlI wx a' n' c' (idn n1)),
   hp (fun v wx => v = .bool bq),
   he (.bool (!bq)),
   he (.bool (!bq))]
            (by kernel_rfl) (fun _ _ e h => h.trans e) ((Ext.refl w).drew) ⟨trivial, trivial, trivial, trivial, trivial, trivial, trivial, fun v w w' e h => h, trivial, trivial, trivial, trivial, trivial, trivial, trivial, trivial, trivial, trivial, trivial, trivial, trivial, trivial, trivial, fun v w w' e ⟨a', n', c', h1, h2⟩ => ⟨a', n', c', h1, h2.ext e⟩, fun v w w' e h => h, trivial, trivial, trivial⟩ ⟨?o0, ?o1, ?o2, ?o3, ?o4, ?o5, ?o6, ?o7, ?o8, ?o9, ?o10, ?o11, ?o12, ?o13, ?o14, ?o15, ?o16, ?o17, ?o18, ?o19, ?o20, ?o21, ?o22, ?o23, ?o24, ?o25, ?o26, trivial⟩ ?fin
          case o0 => exact obl_pmove rfl (.inl rfl) (fun _ _ _ h => h.1)
          case o1 =>
            refine obl_pure rfl ?_
            intro ρ wx hp hC h
            have hcst := hp.const
            have e0 : ρ (.tmp 8) = (.slice (some ⟨b1, o1, none⟩) n c) := h.1
            have hgc := hC.cell g1
            have hsc := s1.ext hC
            go_simp
          case o2 =>
            refine obl_pure rfl ?_
            intro ρ wx hp hC h
            have hcst := hp.const
            have e0 : ρ (.tmp 9) = (.int .i64 n) := h.1
            have hgc := hC.cell g1
            have hsc := s1.ext hC
            go_simp
            try (first | (intros; omega) | exact IntWalk.i64_in _ (by omega))
          case o3 => exact obl_pmove rfl (.inl rfl) (fun _ _ _ h => h.1)
          case o4 => exact obl_pmove rfl (.inl rfl) (fun _ _ _ h => h.1)
          case o5 =>
            refine obl_pure rfl ?_
            intro ρ wx hp hC h
            have hcst := hp.const
            have e0 : ρ (.tmp 12) = (.slice (some ⟨b1, o1, none⟩) n c) := h.1
            have hgc := hC.cell g1
            have hsc := s1.ext hC
            go_simp
            try (first | (intros; omega) | exact IntWalk.i64_in _ (by omega))
          case o6 =>
            refine obl_pure rfl ?_
            intro ρ wx hp hC h
            have hcst := hp.const
            have e0 : ρ (.tmp 13) = (.pointer (some ⟨b1, o1, none⟩)) := h.1
            have hgc := hC.cell g1
            have hsc := s1.ext hC
            go_simp
          case o7 =>
            refine obl_call rfl ?_
            intro ρ wx hp hC h
            have hcst := hp.const
            have hfn := hp.func
            have e1 : ρ (.tmp 14) = (.slice a1 n1 c1) := h.2.1
            have hgc := hC.cell g1
            have hsc := s1.ext hC
            refine ⟨24, #[.slice a1 n1 c1], by go_simp, (ref_Valid hsc).mono ?_⟩
            rintro e w' ⟨rfl, hE'⟩
            exact ⟨_, rfl, hE', by rw [hv0]⟩
          case o8 =>
            refine obl_pure rfl ?_
            intro ρ wx hp hC h
            have hcst := hp.const
            obtain ⟨v0, e0, rfl⟩ := h.1
            have hgc := hC.cell g1
            have hsc := s1.ext hC
            go_simp
          case o9 =>
            refine obl_pure rfl ?_
            intro ρ wx hp hC h
            have hcst := hp.const
            have e0 : ρ (.tmp 11) = (.bool false) := h.1
            have e2 : ρ (.tmp 16) = (.bool false) := h.2.2.1
            have hgc := hC.cell g1
            have hsc := s1.ext hC
            go_simp
          case o10 => exact obl_pmove rfl (.inl rfl) (fun _ _ _ h => h.1)
          case o11 => exact obl_pmove rfl (.inl rfl) (fun _ _ _ h => h.1)
          case o12 =>
            refine obl_pure rfl ?_
            intro ρ wx hp hC h
            have hcst := hp.const
            have e0 : ρ (.tmp 19) = (.slice (some ⟨b1, o1, none⟩) n c) := h.1
            have hgc := hC.cell g1
            have hsc := s1.ext hC
            go_simp
          case o13 =>
            refine obl_pure rfl ?_
            intro ρ wx hp hC h
            have hcst := hp.const
            have e0 : ρ (.tmp 20) = (.int .i64 n) := h.1
            have hgc := hC.cell g1
            have hsc := s1.ext hC
            go_simp
            try (first | (intros; omega) | exact IntWalk.i64_in _ (by omega))
          case o14 =>
            refine obl_pure rfl ?_
            intro ρ wx hp hC h
            have hcst := hp.const
            have e0 : ρ (.tmp 18) = (.bool false) := h.1
            have e2 : ρ (.tmp 21) = (.bool false) := h.2.2.1
            have hgc := hC.cell g1
            have hsc := s1.ext hC
            go_simp
          case o15 => exact obl_pmove rfl (.inl rfl) (fun _ _ _ h => h.1)
          case o16 => exact obl_pmove rfl (.inl rfl) (fun _ _ _ h => h.1)
          case o17 =>
            refine obl_pure rfl ?_
            intro ρ wx hp hC h
            have hcst := hp.const
            have e0 : ρ (.tmp 24) = (.slice (some ⟨b1, o1, none⟩) n c) := h.1
            have hgc := hC.cell g1
            have hsc := s1.ext hC
            go_simp
            try (first | (intros; omega) | exact IntWalk.i64_in _ (by omega))
          case o18 =>
            refine obl_pure rfl ?_
            intro ρ wx hp hC h
            have hcst := hp.const
            have e0 : ρ (.tmp 25) = (.pointer (some ⟨b1, o1, none⟩)) := h.1
            have hgc := hC.cell g1
            have hsc := s1.ext hC
            go_simp
          case o19 => exact obl_pmove rfl (.inl rfl) (fun _ _ _ h => h.1)
          case o20 =>
            refine obl_pure rfl ?_
            intro ρ wx hp hC h
            have hcst := hp.const
            have e0 : ρ (.tmp 27) = (.slice (some ⟨b1, o1, none⟩) n c) := h.1
            have hgc := hC.cell g1
            have hsc := s1.ext hC
            go_simp
            try (first | (intros; omega) | exact IntWalk.i64_in _ (by omega))
          case o21 =>
            refine obl_pure rfl ?_
            intro ρ wx hp hC h
            have hcst := hp.const
            have e0 : ρ (.tmp 28) = (.pointer (some ⟨b1, o1, none⟩)) := h.1
            have hgc := hC.cell g1
            have hsc := s1.ext hC
            go_simp
          case o22 =>
            refine obl_pure rfl ?_
            intro ρ wx hp hC h
            have hcst := hp.const
            have e0 : ρ (.tmp 29) = (.slice a1 n1 c1) := h.1
            have hgc := hC.cell g1
            have hsc := s1.ext hC
            go_simp
          case o23 =>
            refine obl_call rfl ?_
            intro ρ wx hp hC h
            have hcst := hp.const
            have hfn := hp.func
            have e1 : ρ (.tmp 30) = (.int .i64 n1) := h.2.1
            have hgc := hC.cell g1
            have hsc := s1.ext hC
            refine ⟨39, #[.int .i64 n1], by go_simp, (ref_Unit (by omega)).mono ?_⟩
            rintro e w' ⟨a', n', c', rfl, hE', hO'⟩
            exact ⟨_, rfl, hE', a', n', c', rfl, hO'.sl⟩
          case o24 =>
            refine obl_call rfl ?_
            intro ρ wx hp hC h
            have hcst := hp.const
            have hfn := hp.func
            have e1 : ρ (.tmp 26) = (.slice a1 n1 c1) := h.2.1
            obtain ⟨v2, e2, a2, n2, c2, rfl, s2⟩ := h.2.2.1
            have hgc := hC.cell g1
            have hsc := s1.ext hC
            refine ⟨33, #[.slice a1 n1 c1, .slice a2 n2 c2], by go_simp, (slices_Equal hsc s2).mono ?_⟩
            rintro e w' ⟨rfl, hQ'⟩
            exact ⟨_, rfl, hQ'.ext, by rw [hbq]⟩
          case o25 =>
            refine obl_pure rfl ?_
            intro ρ wx hp hC h
            have hcst := hp.const
            obtain ⟨v0, e0, rfl⟩ := h.1
            have hgc := hC.cell g1
            have hsc := s1.ext hC
            go_simp
          case o26 =>
            refine obl_pure rfl ?_
            intro ρ wx hp hC h
            have hcst := hp.const
            have e0 : ρ (.tmp 23) = (.bool false) := h.1
            have e2 : ρ (.tmp 33) = (.bool (!bq)) := h.2.2.1
            have hgc := hC.cell g1
            have hsc := s1.ext hC
            go_simp
          case fin =>
            intro wx hC
            rintro _ rfl
            rintro _ ⟨a31, n31, c31, rfl, s31⟩
            rintro _ rfl
            change wpList _ _ _ _ _ _
            simp only [List.length_cons, List.length_nil, List.drop_succ_cons, List.drop_zero, Act.put, List.setIfInBounds_toArray, List.set_cons_succ, List.set_cons_zero]
            go_wp2
            go_meet
            refine ⟨!bq, rfl, hC, Lib.hid (fun h => ?_), Lib.hid (fun h hg => ?_)⟩
            · have hb : bq = true := by cases bq <;> simp at h ⊢
              rw [hb, decide_eq_true_eq] at hbq
              exact ⟨by omega, by omega, hv0, by rw [s1.len]; exact hbq⟩
            · have hb : bq = false := by cases bq <;> simp at h ⊢
              rw [hb, decide_eq_false_iff_not] at hbq
              have := hg.first
              rw [s1.len] at this
              exact hbq this
  case rest =>
    obtain ⟨b, rfl, hE0, HF, HT⟩ := hcut
    cases b with
    | true =>
      have HG := Lib.hid (isGB_false (HT.out rfl))
      clear HT HF
      go_wp2
      go_ret
      exact ⟨retB HG.out, hE0⟩
    | false =>
      obtain ⟨h0, h7, hv0, hid⟩ := HF.out rfl
      have HID := Lib.hid hid
      clear HT HF hid
      have hx := hx.ext hE0
      go_wp2
      go_loopw [3] (fun i wr => ∃ k : Nat, i = .int .i64 ((k + 1 : Nat) : Int) ∧ k + 1 ≤ n ∧ Ext wc wr ∧ Hid (okTo ls (k + 1))) (fun i _ => n - (intOf i).toNat)
      case atStart => exact ⟨0, rfl, by omega, Ext.refl _, Lib.hid (okTo.one hv0)⟩
      case round =>
        obtain ⟨k, rfl, hk, hE, HK⟩ := hrel
        have hxr := hx.ext hE
        by_cases hlt : k + 1 < n
        · obtain ⟨b1, o1, a1, n1, c1, rfl, g0, s1⟩ := hxr.at (k := 0) (by omega)
          have g1 : wr.cell? ⟨b1, o1, none⟩ = some (.slice a1 n1 c1) := g0
          obtain ⟨b2, o2, a2, n2, c2, e2, g2, s2⟩ := hxr.at (k := k + 1) hlt
          simp only [Option.some.injEq, Addr.mk.injEq, and_true] at e2
          obtain ⟨rfl, rfl⟩ := e2
          obtain ⟨b3, o3, a3, n3, c3, e3, g3, s3⟩ := hxr.at (k := k) (by omega)
          simp only [Option.some.injEq, Addr.mk.injEq, and_true] at e3
          obtain ⟨rfl, rfl⟩ := e3
          clear g0
          go_upto_region 6 with (fail)
          go_cut [71] from 35 to 71 (fun s wx => ∃ b, s = .bool b ∧ Ext wc wx ∧ Hid (b = false → okTo ls (k + 2)) ∧ Hid (b = true → ¬ isG ls))
          case first =>
            cases hv2 : permB (ls.getD (k + 1) []) with
            | false =>
              refine wp_region_typed (by kernel_rfl) (fun wx => Ext wr wx)
                [he (.slice (some ⟨b1, o1, none⟩) n c),
   he (.int .i64 ((k + 1 : Nat) : Int)),
   he (.pointer (some ⟨b1, (o1 + (k + 1)), none⟩)),
   he (.slice a2 n2 c2),
   hp (fun v wx => v = .bool false),
   he (.bool true),
   he (.bool true),
   he undef,
   he undef,
   he undef,
   he undef,
   he undef,
   he undef,
   he undef,
   he undef,
   he undef,
   he undef,
   he (.bool true),
   he (.bool true),
   he undef,
   he undef,
   he undef,
   he undef,
   he undef,
   he undef,
   he undef,
   he undef,
   he undef,
   he undef,
   he undef,
   he (.bool true)]
                (by kernel_rfl) (fun _ _ e h => h.trans e) ((Ext.refl wr).drew) ⟨trivial, trivial, trivial, trivial, fun v w w' e h => h, trivial, trivial, trivial, trivial, trivial, trivial, trivial, trivial, trivial, trivial, trivial, trivial, trivial, trivial, trivial, trivial, trivial, trivial, trivial, trivial, trivial, trivial, trivial, trivial, trivial, trivial, trivial⟩ ⟨?o0, ?o1, ?o2, ?o3, ?o4, ?o5, ?o6, ?o7, ?o8, ?o9, ?o10, ?o11, ?o12, ?o13, ?o14, ?o15, ?o16, ?o17, ?o18, ?o19, ?o20, ?o21, ?o22, ?o23, ?o24, ?o25, ?o26, ?o27, ?o28, ?o29, ?o30, trivial⟩ ?fin
              case o0 => exact obl_pmove rfl (.inl rfl) (fun _ _ _ h => h.1)
              case o1 => exact obl_pmove rfl (.inl rfl) (fun _ _ _ h => h.1)
              case o2 =>
                refine obl_pure rfl ?_
                intro ρ wx hp hC h
                have hcst := hp.const
                have e0 : ρ (.tmp 41) = (.slice (some ⟨b1, o1, none⟩) n c) := h.1
                have e1 : ρ (.tmp 42) = (.int .i64 ((k + 1 : Nat) : Int)) := h.2.1
                have hg1 := hC.cell g1
                have hg2 := hC.cell g2
                have hg3 := hC.cell g3
                have hs2 := s2.ext hC
                go_simp
                try (first | (intros; omega) | exact IntWalk.i64_in _ (by omega))
              case o3 =>
                refine obl_pure rfl ?_
                intro ρ wx hp hC h
                have hcst := hp.const
                have e0 : ρ (.tmp 43) = (.pointer (some ⟨b1, (o1 + (k + 1)), none⟩)) := h.1
                have hg1 := hC.cell g1
                have hg2 := hC.cell g2
                have hg3 := hC.cell g3
                have hs2 := s2.ext hC
                go_simp
              case o4 =>
                refine obl_call rfl ?_
                intro ρ wx hp hC h
                have hcst := hp.const
                have hfn := hp.func
                have e1 : ρ (.tmp 44) = (.slice a2 n2 c2) := h.2.1
                have hg1 := hC.cell g1
                have hg2 := hC.cell g2
                have hg3 := hC.cell g3
                have hs2 := s2.ext hC
                refine ⟨24, #[.slice a2 n2 c2], by go_simp, (ref_Valid hs2).mono ?_⟩
                rintro e w' ⟨rfl, hE'⟩
                exact ⟨_, rfl, hE', by rw [hv2]⟩
              case o5 =>
                refine obl_pure rfl ?_
                intro ρ wx hp hC h
                have hcst := hp.const
                obtain ⟨v0, e0, rfl⟩ := h.1
                have hg1 := hC.cell g1
                have hg2 := hC.cell g2
                have hg3 := hC.cell g3
                have hs2 := s2.ext hC
                go_simp
              case o6 => exact obl_pmove rfl (.inl rfl) (fun _ _ _ h => h.1)
              case o7 => exact obl_none rfl
              case o8 => exact obl_none rfl
              case o9 => exact obl_none rfl
              case o10 => exact obl_none rfl
              case o11 => exact obl_none rfl
              case o12 => exact obl_none rfl
              case o13 => exact obl_none rfl
              case o14 => exact obl_none rfl
              case o15 => exact obl_none rfl
              case o16 => exact obl_none rfl
              case o17 =>
                refine obl_pure rfl ?_
                intro ρ wx hp hC h
                have hcst := hp.const
                have e0 : ρ (.tmp 47) = (.bool true) := h.1
                have e2 : ρ (.tmp 57) = undef := h.2.2.1
                have hg1 := hC.cell g1
                have hg2 := hC.cell g2
                have hg3 := hC.cell g3
                have hs2 := s2.ext hC
                go_simp
              case o18 => exact obl_pmove rfl (.inl rfl) (fun _ _ _ h => h.1)
              case o19 => exact obl_none rfl
              case o20 => exact obl_none rfl
              case o21 => exact obl_none rfl
              case o22 => exact obl_none rfl
              case o23 => exact obl_none rfl
              case o24 => exact obl_none rfl
              case o25 => exact obl_none rfl
              case o26 => exact obl_none rfl
              case o27 => exact obl_none rfl
              case o28 => exact obl_none rfl
              case o29 => exact obl_none rfl
              case o30 =>
                refine obl_pure rfl ?_
                intro ρ wx hp hC h
                have hcst := hp.const
                have e0 : ρ (.tmp 59) = (.bool true) := h.1
                have e2 : ρ (.tmp 70) = undef := h.2.2.1
                have hg1 := hC.cell g1
                have hg2 := hC.cell g2
                have hg3 := hC.cell g3
                have hs2 := s2.ext hC
                go_simp
              case fin =>
                intro wx hC
                rintro _ rfl
                change wpList _ _ _ _ _ _
                simp only [List.length_cons, List.length_nil, List.drop_succ_cons, List.drop_zero, Act.put, List.setIfInBounds_toArray, List.set_cons_succ, List.set_cons_zero]
                go_wp2
                go_meet
                exact ⟨true, rfl, hE.trans hC, Lib.hid (fun h => by cases h), Lib.hid (fun _ h => by have := (h.perms _ (getD_mem (i := k + 1) (by have := HX.out; omega))).1; rw [hv2] at this; cases this)⟩
            | true =>
              by_cases hne : (n2 : Int) = n1
              · have hnb : ((n2 : Int) != (n1 : Int)) = false := by simp [hne]
                cases hls : decide (cmpL (ls.getD k []) (ls.getD (k + 1) []) < 0) with
                | false =>
                  refine wp_region_typed (by kernel_rfl) (fun wx => Ext wr wx)
                    [he (.slice (some ⟨b1, o1, none⟩) n c),
   he (.int .i64 ((k + 1 : Nat) : Int)),
   he (.pointer (some ⟨b1, (o1 + (k + 1)), none⟩)),
   he (.slice a2 n2 c2),
   hp (fun v wx => v = .bool true),
   he (.bool false),
   he (.bool false),
   he (.slice (some ⟨b1, o1, none⟩) n c),
   he (.int .i64 ((k + 1 : Nat) : Int)),
   he (.pointer (some ⟨b1, (o1 + (k + 1)), none⟩)),
   he (.slice a2 n2 c2),
   he (.int .i64 n2),
   he (.slice (some ⟨b1, o1, none⟩) n c),
   he (.pointer (some ⟨b1, o1, none⟩)),
   he (.slice a1 n1 c1),
   he (.int .i64 n1),
   he (.bool false),
   he (.bool false),
   he (.bool false),
   he (.slice (some ⟨b1, o1, none⟩) n c),
   he (.int .i64 ((k + 1 : Nat) : Int)),
   he (.int .i64 (k : Int)),
   he (.pointer (some ⟨b1, (o1 + k), none⟩)),
   he (.slice a3 n3 c3),
   he (.slice (some ⟨b1, o1, none⟩) n c),
   he (.int .i64 ((k + 1 : Nat) : Int)),
   he (.pointer (some ⟨b1, (o1 + (k + 1)), none⟩)),
   he (.slice a2 n2 c2),
   hp (fun v wx => v = .bool false),
   he (.bool true),
   he (.bool true)]
                    (by kernel_rfl) (fun _ _ e h => h.trans e) ((Ext.refl wr).drew) ⟨trivial, trivial, trivial, trivial, fun v w w' e h => h, trivial, trivial, trivial, trivial, trivial, trivial, trivial, trivial, trivial, trivial, trivial, trivial, trivial, trivial, trivial, trivial, trivial, trivial, trivial, trivial, trivial, trivial, trivial, fun v w w' e h => h, trivial, trivial, trivial⟩ ⟨?o0, ?o1, ?o2, ?o3, ?o4, ?o5, ?o6, ?o7, ?o8, ?o9, ?o10, ?o11, ?o12, ?o13, ?o14, ?o15, ?o16, ?o17, ?o18, ?o19, ?o20, ?o21, ?o22, ?o23, ?o24, ?o25, ?o26, ?o27, ?o28, ?o29, ?o30, trivial⟩ ?fin
                  case o0 => exact obl_pmove rfl (.inl rfl) (fun _ _ _ h => h.1)
                  case o1 => exact obl_pmove rfl (.inl rfl) (fun _ _ _ h => h.1)
                  case o2 =>
                    refine obl_pure rfl ?_
                    intro ρ wx hp hC h
                    have hcst := hp.const
                    have e0 : ρ (.tmp 41) = (.slice (some ⟨b1, o1, none⟩) n c) := h.1
                    have e1 : ρ (.tmp 42) = (.int .i64 ((k + 1 : Nat) : Int)) := h.2.1
                    have hg1 := hC.cell g1
                    have hg2 := hC.cell g2
                    have hg3 := hC.cell g3
                    have hs2 := s2.ext hC
                    go_simp
                    try (first | (intros; omega) | exact IntWalk.i64_in _ (by omega))
                  case o3 =>
                    refine obl_pure rfl ?_
                    intro ρ wx hp hC h
                    have hcst := hp.const
                    have e0 : ρ (.tmp 43) = (.pointer (some ⟨b1, (o1 + (k + 1)), none⟩)) := h.1
                    have hg1 := hC.cell g1
                    have hg2 := hC.cell g2
                    have hg3 := hC.cell g3
                    have hs2 := s2.ext hC
                    go_simp
                  case o4 =>
                    refine obl_call rfl ?_
                    intro ρ wx hp hC h
                    have hcst := hp.const
                    have hfn := hp.func
                    have e1 : ρ (.tmp 44) = (.slice a2 n2 c2) := h.2.1
                    have hg1 := hC.cell g1
                    have hg2 := hC.cell g2
                    have hg3 := hC.cell g3
                    have hs2 := s2.ext hC
                    refine ⟨24, #[.slice a2 n2 c2], by go_simp, (ref_Valid hs2).mono ?_⟩
                    rintro e w' ⟨rfl, hE'⟩
                    exact ⟨_, rfl, hE', by rw [hv2]⟩
                  case o5 =>
                    refine obl_pure rfl ?_
                    intro ρ wx hp hC h
                    have hcst := hp.const
                    obtain ⟨v0, e0, rfl⟩ := h.1
                    have hg1 := hC.cell g1
                    have hg2 := hC.cell g2
                    have hg3 := hC.cell g3
                    have hs2 := s2.ext hC
                    go_simp
                  case o6 => exact obl_pmove rfl (.inl rfl) (fun _ _ _ h => h.1)
                  case o7 => exact obl_pmove rfl (.inl rfl) (fun _ _ _ h => h.1)
                  case o8 => exact obl_pmove rfl (.inl rfl) (fun _ _ _ h => h.1)
                  case o9 =>
                    refine obl_pure rfl ?_
                    intro ρ wx hp hC h
                    have hcst := hp.const
                    have e0 : ρ (.tmp 48) = (.slice (some ⟨b1, o1, none⟩) n c) := h.1
                    have e1 : ρ (.tmp 49) = (.int .i64 ((k + 1 : Nat) : Int)) := h.2.1
                    have hg1 := hC.cell g1
                    have hg2 := hC.cell g2
                    have hg3 := hC.cell g3
                    have hs2 := s2.ext hC
                    go_simp
                    try (first | (intros; omega) | exact IntWalk.i64_in _ (by omega))
                  case o10 =>
                    refine obl_pure rfl ?_
                    intro ρ wx hp hC h
                    have hcst := hp.const
                    have e0 : ρ (.tmp 50) = (.pointer (some ⟨b1, (o1 + (k + 1)), none⟩)) := h.1
                    have hg1 := hC.cell g1
                    have hg2 := hC.cell g2
                    have hg3 := hC.cell g3
                    have hs2 := s2.ext hC
                    go_simp
                  case o11 =>
                    refine obl_pure rfl ?_
                    intro ρ wx hp hC h
                    have hcst := hp.const
                    have e0 : ρ (.tmp 51) = (.slice a2 n2 c2) := h.1
                    have hg1 := hC.cell g1
                    have hg2 := hC.cell g2
                    have hg3 := hC.cell g3
                    have hs2 := s2.ext hC
                    go_simp
                  case o12 => exact obl_pmove rfl (.inl rfl) (fun _ _ _ h => h.1)
                  case o13 =>
                    refine obl_pure rfl ?_
                    intro ρ wx hp hC h
                    have hcst := hp.const
                    have e0 : ρ (.tmp 53) = (.slice (some ⟨b1, o1, none⟩) n c) := h.1
                    have hg1 := hC.cell g1
                    have hg2 := hC.cell g2
                    have hg3 := hC.cell g3
                    have hs2 := s2.ext hC
                    go_simp
                    try (first | (intros; omega) | exact IntWalk.i64_in _ (by omega))
                  case o14 =>
                    refine obl_pure rfl ?_
                    intro ρ wx hp hC h
                    have hcst := hp.const
                    have e0 : ρ (.tmp 54) = (.pointer (some ⟨b1, o1, none⟩)) := h.1
                    have hg1 := hC.cell g1
                    have hg2 := hC.cell g2
                    have hg3 := hC.cell g3
                    have hs2 := s2.ext hC
                    go_simp
                  case o15 =>
                    refine obl_pure rfl ?_
                    intro ρ wx hp hC h
                    have hcst := hp.const
                    have e0 : ρ (.tmp 55) = (.slice a1 n1 c1) := h.1
                    have hg1 := hC.cell g1
                    have hg2 := hC.cell g2
                    have hg3 := hC.cell g3
                    have hs2 := s2.ext hC
                    go_simp
                  case o16 =>
                    refine obl_pure rfl ?_
                    intro ρ wx hp hC h
                    have hcst := hp.const
                    have e0 : ρ (.tmp 52) = (.int .i64 n2) := h.1
                    have e1 : ρ (.tmp 56) = (.int .i64 n1) := h.2.1
                    have hg1 := hC.cell g1
                    have hg2 := hC.cell g2
                    have hg3 := hC.cell g3
                    have hs2 := s2.ext hC
                    go_simp
                    try (first | (intros; omega) | exact IntWalk.i64_in _ (by omega))
                  case o17 =>
                    refine obl_pure rfl ?_
                    intro ρ wx hp hC h
                    have hcst := hp.const
                    have e0 : ρ (.tmp 47) = (.bool false) := h.1
                    have e2 : ρ (.tmp 57) = (.bool false) := h.2.2.1
                    have hg1 := hC.cell g1
                    have hg2 := hC.cell g2
                    have hg3 := hC.cell g3
                    have hs2 := s2.ext hC
                    go_simp
                  case o18 => exact obl_pmove rfl (.inl rfl) (fun _ _ _ h => h.1)
                  case o19 => exact obl_pmove rfl (.inl rfl) (fun _ _ _ h => h.1)
                  case o20 => exact obl_pmove rfl (.inl rfl) (fun _ _ _ h => h.1)
                  case o21 =>
                    refine obl_pure rfl ?_
                    intro ρ wx hp hC h
                    have hcst := hp.const
                    have e0 : ρ (.tmp 61) = (.int .i64 ((k + 1 : Nat) : Int)) := h.1
                    have hg1 := hC.cell g1
                    have hg2 := hC.cell g2
                    have hg3 := hC.cell g3
                    have hs2 := s2.ext hC
                    go_simp
                    try (first | (intros; omega) | exact IntWalk.i64_in _ (by omega))
                  case o22 =>
                    refine obl_pure rfl ?_
                    intro ρ wx hp hC h
                    have hcst := hp.const
                    have e0 : ρ (.tmp 60) = (.slice (some ⟨b1, o1, none⟩) n c) := h.1
                    have e1 : ρ (.tmp 62) = (.int .i64 (k : Int)) := h.2.1
                    have hg1 := hC.cell g1
                    have hg2 := hC.cell g2
                    have hg3 := hC.cell g3
                    have hs2 := s2.ext hC
                    go_simp
                    try (first | (intros; omega) | exact IntWalk.i64_in _ (by omega))
                  case o23 =>
                    refine obl_pure rfl ?_
                    intro ρ wx hp hC h
                    have hcst := hp.const
                    have e0 : ρ (.tmp 63) = (.pointer (some ⟨b1, (o1 + k), none⟩)) := h.1
                    have hg1 := hC.cell g1
                    have hg2 := hC.cell g2
                    have hg3 := hC.cell g3
                    have hs2 := s2.ext hC
                    go_simp
                  case o24 => exact obl_pmove rfl (.inl rfl) (fun _ _ _ h => h.1)
                  case o25 => exact obl_pmove rfl (.inl rfl) (fun _ _ _ h => h.1)
                  case o26 =>
                    refine obl_pure rfl ?_
                    intro ρ wx hp hC h
                    have hcst := hp.const
                    have e0 : ρ (.tmp 65) = (.slice (some ⟨b1, o1, none⟩) n c) := h.1
                    have e1 : ρ (.tmp 66) = (.int .i64 ((k + 1 : Nat) : Int)) := h.2.1
                    have hg1 := hC.cell g1
                    have hg2 := hC.cell g2
                    have hg3 := hC.cell g3
                    have hs2 := s2.ext hC
                    go_simp
                    try (first | (intros; omega) | exact IntWalk.i64_in _ (by omega))
                  case o27 =>
                    refine obl_pure rfl ?_
                    intro ρ wx hp hC h
                    have hcst := hp.const
                    have e0 : ρ (.tmp 67) = (.pointer (some ⟨b1, (o1 + (k + 1)), none⟩)) := h.1
                    have hg1 := hC.cell g1
                    have hg2 := hC.cell g2
                    have hg3 := hC.cell g3
                    have hs2 := s2.ext hC
                    go_simp
                  case o28 =>
                    refine obl_call rfl ?_
                    intro ρ wx hp hC h
                    have hcst := hp.const
                    have hfn := hp.func
                    have e1 : ρ (.tmp 64) = (.slice a3 n3 c3) := h.2.1
                    have e2 : ρ (.tmp 68) = (.slice a2 n2 c2) := h.2.2.1
                    have hg1 := hC.cell g1
                    have hg2 := hC.cell g2
                    have hg3 := hC.cell g3
                    have hs2 := s2.ext hC
                    refine ⟨40, #[.slice a3 n3 c3, .slice a2 n2 c2], by go_simp, (ref_Less (s3.ext hC) (s2.ext hC)).mono ?_⟩
                    rintro e w' ⟨rfl, hQ'⟩
                    exact ⟨_, rfl, hQ'.ext, by rw [hls]⟩
                  case o29 =>
                    refine obl_pure rfl ?_
                    intro ρ wx hp hC h
                    have hcst := hp.const
                    obtain ⟨v0, e0, rfl⟩ := h.1
                    have hg1 := hC.cell g1
                    have hg2 := hC.cell g2
                    have hg3 := hC.cell g3
                    have hs2 := s2.ext hC
                    go_simp
                  case o30 =>
                    refine obl_pure rfl ?_
                    intro ρ wx hp hC h
                    have hcst := hp.const
                    have e0 : ρ (.tmp 59) = (.bool false) := h.1
                    have e2 : ρ (.tmp 70) = (.bool true) := h.2.2.1
                    have hg1 := hC.cell g1
                    have hg2 := hC.cell g2
                    have hg3 := hC.cell g3
                    have hs2 := s2.ext hC
                    go_simp
                  case fin =>
                    intro wx hC
                    rintro _ rfl
                    rintro _ rfl
                    change wpList _ _ _ _ _ _
                    simp only [List.length_cons, List.length_nil, List.drop_succ_cons, List.drop_zero, Act.put, List.setIfInBounds_toArray, List.set_cons_succ, List.set_cons_zero]
                    go_wp2
                    go_meet
                    exact ⟨true, rfl, hE.trans hC, Lib.hid (fun h => by cases h), Lib.hid (fun _ h => by have := h.sort k (k + 1) (by omega) (by have := HX.out; omega); rw [decide_eq_false_iff_not] at hls; exact hls this)⟩
                | true =>
                  refine wp_region_typed (by kernel_rfl) (fun wx => Ext wr wx)
                    [he (.slice (some ⟨b1, o1, none⟩) n c),
   he (.int .i64 ((k + 1 : Nat) : Int)),
   he (.pointer (some ⟨b1, (o1 + (k + 1)), none⟩)),
   he (.slice a2 n2 c2),
   hp (fun v wx => v = .bool true),
   he (.bool false),
   he (.bool false),
   he (.slice (some ⟨b1, o1, none⟩) n c),
   he (.int .i64 ((k + 1 : Nat) : Int)),
   he (.pointer (some ⟨b1, (o1 + (k + 1)), none⟩)),
   he (.slice a2 n2 c2),
   he (.int .i64 n2),
   he (.slice (some ⟨b1, o1, none⟩) n c),
   he (.pointer (some ⟨b1, o1, none⟩)),
   he (.slice a1 n1 c1),
   he (.int .i64 n1),
   he (.bool false),
   he (.bool false),
   he (.bool false),
   he (.slice (some ⟨b1, o1, none⟩) n c),
   he (.int .i64 ((k + 1 : Nat) : Int)),
   he (.int .i64 (k : Int)),
   he (.pointer (some ⟨b1, (o1 + k), none⟩)),
   he (.slice a3 n3 c3),
   he (.slice (some ⟨b1, o1, none⟩) n c),
   he (.int .i64 ((k + 1 : Nat) : Int)),
   he (.pointer (some ⟨b1, (o1 + (k + 1)), none⟩)),
   he (.slice a2 n2 c2),
   hp (fun v wx => v = .bool true),
   he (.bool false),
   he (.bool false)]
                    (by kernel_rfl) (fun _ _ e h => h.trans e) ((Ext.refl wr).drew) ⟨trivial, trivial, trivial, trivial, fun v w w' e h => h, trivial, trivial, trivial, trivial, trivial, trivial, trivial, trivial, trivial, trivial, trivial, trivial, trivial, trivial, trivial, trivial, trivial, trivial, trivial, trivial, trivial, trivial, trivial, fun v w w' e h => h, trivial, trivial, trivial⟩ ⟨?o0, ?o1, ?o2, ?o3, ?o4, ?o5, ?o6, ?o7, ?o8, ?o9, ?o10, ?o11, ?o12, ?o13, ?o14, ?o15, ?o16, ?o17, ?o18, ?o19, ?o20, ?o21, ?o22, ?o23, ?o24, ?o25, ?o26, ?o27, ?o28, ?o29, ?o30, trivial⟩ ?fin
                  case o0 => exact obl_pmove rfl (.inl rfl) (fun _ _ _ h => h.1)
                  case o1 => exact obl_pmove rfl (.inl rfl) (fun _ _ _ h => h.1)
                  case o2 =>
                    refine obl_pure rfl ?_
                    intro ρ wx hp hC h
                    have hcst := hp.const
                    have e0 : ρ (.tmp 41) = (.slice (some ⟨b1, o1, none⟩) n c) := h.1
                    have e1 : ρ (.tmp 42) = (.int .i64 ((k + 1 : Nat) : Int)) := h.2.1
                    have hg1 := hC.cell g1
                    have hg2 := hC.cell g2
                    have hg3 := hC.cell g3
                    have hs2 := s2.ext hC
                    go_simp
                    try (first | (intros; omega) | exact IntWalk.i64_in _ (by omega))
                  case o3 =>
                    refine obl_pure rfl ?_
                    intro ρ wx hp hC h
                    have hcst := hp.const
                    have e0 : ρ (.tmp 43) = (.pointer (some ⟨b1, (o1 + (k + 1)), none⟩)) := h.1
                    have hg1 := hC.cell g1
                    have hg2 := hC.cell g2
                    have hg3 := hC.cell g3
                    have hs2 := s2.ext hC
                    go_simp
                  case o4 =>
                    refine obl_call rfl ?_
                    intro ρ wx hp hC h
                    have hcst := hp.const
                    have hfn := hp.func
                    have e1 : ρ (.tmp 44) = (.slice a2 n2 c2) := h.2.1
                    have hg1 := hC.cell g1
                    have hg2 := hC.cell g2
                    have hg3 := hC.cell g3
                    have hs2 := s2.ext hC
                    refine ⟨24, #[.slice a2 n2 c2], by go_simp, (ref_Valid hs2).mono ?_⟩
                    rintro e w' ⟨rfl, hE'⟩
                    exact ⟨_, rfl, hE', by rw [hv2]⟩
                  case o5 =>
                    refine obl_pure rfl ?_
                    intro ρ wx hp hC h
                    have hcst := hp.const
                    obtain ⟨v0, e0, rfl⟩ := h.1
                    have hg1 := hC.cell g1
                    have hg2 := hC.cell g2
                    have hg3 := hC.cell g3
                    have hs2 := s2.ext hC
                    go_simp
                  case o6 => exact obl_pmove rfl (.inl rfl) (fun _ _ _ h => h.1)
                  case o7 => exact obl_pmove rfl (.inl rfl) (fun _ _ _ h => h.1)
                  case o8 => exact obl_pmove rfl (.inl rfl) (fun _ _ _ h => h.1)
                  case o9 =>
                    refine obl_pure rfl ?_
                    intro ρ wx hp hC h
                    have hcst := hp.const
                    have e0 : ρ (.tmp 48) = (.slice (some ⟨b1, o1, none⟩) n c) := h.1
                    have e1 : ρ (.tmp 49) = (.int .i64 ((k + 1 : Nat) : Int)) := h.2.1
                    have hg1 := hC.cell g1
                    have hg2 := hC.cell g2
                    have hg3 := hC.cell g3
                    have hs2 := s2.ext hC
                    go_simp
                    try (first | (intros; omega) | exact IntWalk.i64_in _ (by omega))
                  case o10 =>
                    refine obl_pure rfl ?_
                    intro ρ wx hp hC h
                    have hcst := hp.const
                    have e0 : ρ (.tmp 50) = (.pointer (some ⟨b1, (o1 + (k + 1)), none⟩)) := h.1
                    have hg1 := hC.cell g1
                    have hg2 := hC.cell g2
                    have hg3 := hC.cell g3
                    have hs2 := s2.ext hC
                    go_simp
                  case o11 =>
                    refine obl_pure rfl ?_
                    intro ρ wx hp hC h
                    have hcst := hp.const
                    have e0 : ρ (.tmp 51) = (.slice a2 n2 c2) := h.1
                    have hg1 := hC.cell g1
                    have hg2 := hC.cell g2
                    have hg3 := hC.cell g3
                    have hs2 := s2.ext hC
                    go_simp
                  case o12 => exact obl_pmove rfl (.inl rfl) (fun _ _ _ h => h.1)
                  case o13 =>
                    refine obl_pure rfl ?_
                    intro ρ wx hp hC h
                    have hcst := hp.const
                    have e0 : ρ (.tmp 53) = (.slice (some ⟨b1, o1, none⟩) n c) := h.1
                    have hg1 := hC.cell g1
                    have hg2 := hC.cell g2
                    have hg3 := hC.cell g3
                    have hs2 := s2.ext hC
                    go_simp
                    try (first | (intros; omega) | exact IntWalk.i64_in _ (by omega))
                  case o14 =>
                    refine obl_pure rfl ?_
                    intro ρ wx hp hC h
                    have hcst := hp.const
                    have e0 : ρ (.tmp 54) = (.pointer (some ⟨b1, o1, none⟩)) := h.1
                    have hg1 := hC.cell g1
                    have hg2 := hC.cell g2
                    have hg3 := hC.cell g3
                    have hs2 := s2.ext hC
                    go_simp
                  case o15 =>
                    refine obl_pure rfl ?_
                    intro ρ wx hp hC h
                    have hcst := hp.const
                    have e0 : ρ (.tmp 55) = (.slice a1 n1 c1) := h.1
                    have hg1 := hC.cell g1
                    have hg2 := hC.cell g2
                    have hg3 := hC.cell g3
                    have hs2 := s2.ext hC
                    go_simp
                  case o16 =>
                    refine obl_pure rfl ?_
                    intro ρ wx hp hC h
                    have hcst := hp.const
                    have e0 : ρ (.tmp 52) = (.int .i64 n2) := h.1
                    have e1 : ρ (.tmp 56) = (.int .i64 n1) := h.2.1
                    have hg1 := hC.cell g1
                    have hg2 := hC.cell g2
                    have hg3 := hC.cell g3
                    have hs2 := s2.ext hC
                    go_simp
                    try (first | (intros; omega) | exact IntWalk.i64_in _ (by omega))
                  case o17 =>
                    refine obl_pure rfl ?_
                    intro ρ wx hp hC h
                    have hcst := hp.const
                    have e0 : ρ (.tmp 47) = (.bool false) := h.1
                    have e2 : ρ (.tmp 57) = (.bool false) := h.2.2.1
                    have hg1 := hC.cell g1
                    have hg2 := hC.cell g2
                    have hg3 := hC.cell g3
                    have hs2 := s2.ext hC
                    go_simp
                  case o18 => exact obl_pmove rfl (.inl rfl) (fun _ _ _ h => h.1)
                  case o19 => exact obl_pmove rfl (.inl rfl) (fun _ _ _ h => h.1)
                  case o20 => exact obl_pmove rfl (.inl rfl) (fun _ _ _ h => h.1)
                  case o21 =>
                    refine obl_pure rfl ?_
                    intro ρ wx hp hC h
                    have hcst := hp.const
                    have e0 : ρ (.tmp 61) = (.int .i64 ((k + 1 : Nat) : Int)) := h.1
                    have hg1 := hC.cell g1
                    have hg2 := hC.cell g2
                    have hg3 := hC.cell g3
                    have hs2 := s2.ext hC
                    go_simp
                    try (first | (intros; omega) | exact IntWalk.i64_in _ (by omega))
                  case o22 =>
                    refine obl_pure rfl ?_
                    intro ρ wx hp hC h
                    have hcst := hp.const
                    have e0 : ρ (.tmp 60) = (.slice (some ⟨b1, o1, none⟩) n c) := h.1
                    have e1 : ρ (.tmp 62) = (.int .i64 (k : Int)) := h.2.1
                    have hg1 := hC.cell g1
                    have hg2 := hC.cell g2
                    have hg3 := hC.cell g3
                    have hs2 := s2.ext hC
                    go_simp
                    try (first | (intros; omega) | exact IntWalk.i64_in _ (by omega))
                  case o23 =>
                    refine obl_pure rfl ?_
                    intro ρ wx hp hC h
                    have hcst := hp.const
                    have e0 : ρ (.tmp 63) = (.pointer (some ⟨b1, (o1 + k), none⟩)) := h.1
                    have hg1 := hC.cell g1
                    have hg2 := hC.cell g2
                    have hg3 := hC.cell g3
                    have hs2 := s2.ext hC
                    go_simp
                  case o24 => exact obl_pmove rfl (.inl rfl) (fun _ _ _ h => h.1)
                  case o25 => exact obl_pmove rfl (.inl rfl) (fun _ _ _ h => h.1)
                  case o26 =>
                    refine obl_pure rfl ?_
                    intro ρ wx hp hC h
                    have hcst := hp.const
                    have e0 : ρ (.tmp 65) = (.slice (some ⟨b1, o1, none⟩) n c) := h.1
                    have e1 : ρ (.tmp 66) = (.int .i64 ((k + 1 : Nat) : Int)) := h.2.1
                    have hg1 := hC.cell g1
                    have hg2 := hC.cell g2
                    have hg3 := hC.cell g3
                    have hs2 := s2.ext hC
                    go_simp
                    try (first | (intros; omega) | exact IntWalk.i64_in _ (by omega))
                  case o27 =>
                    refine obl_pure rfl ?_
                    intro ρ wx hp hC h
                    have hcst := hp.const
                    have e0 : ρ (.tmp 67) = (.pointer (some ⟨b1, (o1 + (k + 1)), none⟩)) := h.1
                    have hg1 := hC.cell g1
                    have hg2 := hC.cell g2
                    have hg3 := hC.cell g3
                    have hs2 := s2.ext hC
                    go_simp
                  case o28 =>
                    refine obl_call rfl ?_
                    intro ρ wx hp hC h
                    have hcst := hp.const
                    have hfn := hp.func
                    have e1 : ρ (.tmp 64) = (.slice a3 n3 c3) := h.2.1
                    have e2 : ρ (.tmp 68) = (.slice a2 n2 c2) := h.2.2.1
                    have hg1 := hC.cell g1
                    have hg2 := hC.cell g2
                    have hg3 := hC.cell g3
                    have hs2 := s2.ext hC
                    refine ⟨40, #[.slice a3 n3 c3, .slice a2 n2 c2], by go_simp, (ref_Less (s3.ext hC) (s2.ext hC)).mono ?_⟩
                    rintro e w' ⟨rfl, hQ'⟩
                    exact ⟨_, rfl, hQ'.ext, by rw [hls]⟩
                  case o29 =>
                    refine obl_pure rfl ?_
                    intro ρ wx hp hC h
                    have hcst := hp.const
                    obtain ⟨v0, e0, rfl⟩ := h.1
                    have hg1 := hC.cell g1
                    have hg2 := hC.cell g2
                    have hg3 := hC.cell g3
                    have hs2 := s2.ext hC
                    go_simp
                  case o30 =>
                    refine obl_pure rfl ?_
                    intro ρ wx hp hC h
                    have hcst := hp.const
                    have e0 : ρ (.tmp 59) = (.bool false) := h.1
                    have e2 : ρ (.tmp 70) = (.bool false) := h.2.2.1
                    have hg1 := hC.cell g1
                    have hg2 := hC.cell g2
                    have hg3 := hC.cell g3
                    have hs2 := s2.ext hC
                    go_simp
                  case fin =>
                    intro wx hC
                    rintro _ rfl
                    rintro _ rfl
                    change wpList _ _ _ _ _ _
                    simp only [List.length_cons, List.length_nil, List.drop_succ_cons, List.drop_zero, Act.put, List.setIfInBounds_toArray, List.set_cons_succ, List.set_cons_zero]
                    go_wp2
                    go_meet
                    refine ⟨false, rfl, hE.trans hC, Lib.hid (fun _ => ?_), Lib.hid (fun h => by cases h)⟩
                    rw [decide_eq_true_eq] at hls
                    exact HK.out.succ ⟨hv2, by have e1 := s1.len; have e2 := s2.len; omega⟩ hls
              · have hnb : ((n2 : Int) != (n1 : Int)) = true := by simp [hne]
                refine wp_region_typed (by kernel_rfl) (fun wx => Ext wr wx)
                  [he (.slice (some ⟨b1, o1, none⟩) n c),
   he (.int .i64 ((k + 1 : Nat) : Int)),
   he (.pointer (some ⟨b1, (o1 + (k + 1)), none⟩)),
   he (.slice a2 n2 c2),
   hp (fun v wx => v = .bool true),
   he (.bool false),
   he (.bool false),
   he (.slice (some ⟨b1, o1, none⟩) n c),
   he (.int .i64 ((k + 1 : Nat) : Int)),
   he (.pointer (some ⟨b1, (o1 + (k + 1)), none⟩)),
   he (.slice a2 n2 c2),
   he (.int .i64 n2),
   he (.slice (some ⟨b1, o1, none⟩) n c),
   he (.pointer (some ⟨b1, o1, none⟩)),
   he (.slice a1 n1 c1),
   he (.int .i64 n1),
   he (.bool true),
   he (.bool true),
   he (.bool true),
   he undef,
   he undef,
   he undef,
   he undef,
   he undef,
   he undef,
   he undef,
   he undef,
   he undef,
   he undef,
   he undef,
   he (.bool true)]
                  (by kernel_rfl) (fun _ _ e h => h.trans e) ((Ext.refl wr).drew) ⟨trivial, trivial, trivial, trivial, fun v w w' e h => h, trivial, trivial, trivial, trivial, trivial, trivial, trivial, trivial, trivial, trivial, trivial, trivial, trivial, trivial, trivial, trivial, trivial, trivial, trivial, trivial, trivial, trivial, trivial, trivial, trivial, trivial, trivial⟩ ⟨?o0, ?o1, ?o2, ?o3, ?o4, ?o5, ?o6, ?o7, ?o8, ?o9, ?o10, ?o11, ?o12, ?o13, ?o14, ?o15, ?o16, ?o17, ?o18, ?o19, ?o20, ?o21, ?o22, ?o23, ?o24, ?o25, ?o26, ?o27, ?o28, ?o29, ?o30, trivial⟩ ?fin
                case o0 => exact obl_pmove rfl (.inl rfl) (fun _ _ _ h => h.1)
                case o1 => exact obl_pmove rfl (.inl rfl) (fun _ _ _ h => h.1)
                case o2 =>
                  refine obl_pure rfl ?_
                  intro ρ wx hp hC h
                  have hcst := hp.const
                  have e0 : ρ (.tmp 41) = (.slice (some ⟨b1, o1, none⟩) n c) := h.1
                  have e1 : ρ (.tmp 42) = (.int .i64 ((k + 1 : Nat) : Int)) := h.2.1
                  have hg1 := hC.cell g1
                  have hg2 := hC.cell g2
                  have hg3 := hC.cell g3
                  have hs2 := s2.ext hC
                  go_simp
                  try (first | (intros; omega) | exact IntWalk.i64_in _ (by omega))
                case o3 =>
                  refine obl_pure rfl ?_
                  intro ρ wx hp hC h
                  have hcst := hp.const
                  have e0 : ρ (.tmp 43) = (.pointer (some ⟨b1, (o1 + (k + 1)), none⟩)) := h.1
                  have hg1 := hC.cell g1
                  have hg2 := hC.cell g2
                  have hg3 := hC.cell g3
                  have hs2 := s2.ext hC
                  go_simp
                case o4 =>
                  refine obl_call rfl ?_
                  intro ρ wx hp hC h
                  have hcst := hp.const
                  have hfn := hp.func
                  have e1 : ρ (.tmp 44) = (.slice a2 n2 c2) := h.2.1
                  have hg1 := hC.cell g1
                  have hg2 := hC.cell g2
                  have hg3 := hC.cell g3
                  have hs2 := s2.ext hC
                  refine ⟨24, #[.slice a2 n2 c2], by go_simp, (ref_Valid hs2).mono ?_⟩
                  rintro e w' ⟨rfl, hE'⟩
                  exact ⟨_, rfl, hE', by rw [hv2]⟩
                case o5 =>
                  refine obl_pure rfl ?_
                  intro ρ wx hp hC h
                  have hcst := hp.const
                  obtain ⟨v0, e0, rfl⟩ := h.1
                  have hg1 := hC.cell g1
                  have hg2 := hC.cell g2
                  have hg3 := hC.cell g3
                  have hs2 := s2.ext hC
                  go_simp
                case o6 => exact obl_pmove rfl (.inl rfl) (fun _ _ _ h => h.1)
                case o7 => exact obl_pmove rfl (.inl rfl) (fun _ _ _ h => h.1)
                case o8 => exact obl_pmove rfl (.inl rfl) (fun _ _ _ h => h.1)
                case o9 =>
                  refine obl_pure rfl ?_
                  intro ρ wx hp hC h
                  have hcst := hp.const
                  have e0 : ρ (.tmp 48) = (.slice (some ⟨b1, o1, none⟩) n c) := h.1
                  have e1 : ρ (.tmp 49) = (.int .i64 ((k + 1 : Nat) : Int)) := h.2.1
                  have hg1 := hC.cell g1
                  have hg2 := hC.cell g2
                  have hg3 := hC.cell g3
                  have hs2 := s2.ext hC
                  go_simp
                  try (first | (intros; omega) | exact IntWalk.i64_in _ (by omega))
                case o10 =>
                  refine obl_pure rfl ?_
                  intro ρ wx hp hC h
                  have hcst := hp.const
                  have e0 : ρ (.tmp 50) = (.pointer (some ⟨b1, (o1 + (k + 1)), none⟩)) := h.1
                  have hg1 := hC.cell g1
                  have hg2 := hC.cell g2
                  have hg3 := hC.cell g3
                  have hs2 := s2.ext hC
                  go_simp
                case o11 =>
                  refine obl_pure rfl ?_
                  intro ρ wx hp hC h
                  have hcst := hp.const
                  have e0 : ρ (.tmp 51) = (.slice a2 n2 c2) := h.1
                  have hg1 := hC.cell g1
                  have hg2 := hC.cell g2
                  have hg3 := hC.cell g3
                  have hs2 := s2.ext hC
                  go_simp
                case o12 => exact obl_pmove rfl (.inl rfl) (fun _ _ _ h => h.1)
                case o13 =>
                  refine obl_pure rfl ?_
                  intro ρ wx hp hC h
                  have hcst := hp.const
                  have e0 : ρ (.tmp 53) = (.slice (some ⟨b1, o1, none⟩) n c) := h.1
                  have hg1 := hC.cell g1
                  have hg2 := hC.cell g2
                  have hg3 := hC.cell g3
                  have hs2 := s2.ext hC
                  go_simp
                  try (first | (intros; omega) | exact IntWalk.i64_in _ (by omega))
                case o14 =>
                  refine obl_pure rfl ?_
                  intro ρ wx hp hC h
                  have hcst := hp.const
                  have e0 : ρ (.tmp 54) = (.pointer (some ⟨b1, o1, none⟩)) := h.1
                  have hg1 := hC.cell g1
                  have hg2 := hC.cell g2
                  have hg3 := hC.cell g3
                  have hs2 := s2.ext hC
                  go_simp
                case o15 =>
                  refine obl_pure rfl ?_
                  intro ρ wx hp hC h
                  have hcst := hp.const
                  have e0 : ρ (.tmp 55) = (.slice a1 n1 c1) := h.1
                  have hg1 := hC.cell g1
                  have hg2 := hC.cell g2
                  have hg3 := hC.cell g3
                  have hs2 := s2.ext hC
                  go_simp
                case o16 =>
                  refine obl_pure rfl ?_
                  intro ρ wx hp hC h
                  have hcst := hp.const
                  have e0 : ρ (.tmp 52) = (.int .i64 n2) := h.1
                  have e1 : ρ (.tmp 56) = (.int .i64 n1) := h.2.1
                  have hg1 := hC.cell g1
                  have hg2 := hC.cell g2
                  have hg3 := hC.cell g3
                  have hs2 := s2.ext hC
                  go_simp
                  try (first | (intros; omega) | exact IntWalk.i64_in _ (by omega))
                case o17 =>
                  refine obl_pure rfl ?_
                  intro ρ wx hp hC h
                  have hcst := hp.const
                  have e0 : ρ (.tmp 47) = (.bool false) := h.1
                  have e2 : ρ (.tmp 57) = (.bool true) := h.2.2.1
                  have hg1 := hC.cell g1
                  have hg2 := hC.cell g2
                  have hg3 := hC.cell g3
                  have hs2 := s2.ext hC
                  go_simp
                case o18 => exact obl_pmove rfl (.inl rfl) (fun _ _ _ h => h.1)
                case o19 => exact obl_none rfl
                case o20 => exact obl_none rfl
                case o21 => exact obl_none rfl
                case o22 => exact obl_none rfl
                case o23 => exact obl_none rfl
                case o24 => exact obl_none rfl
                case o25 => exact obl_none rfl
                case o26 => exact obl_none rfl
                case o27 => exact obl_none rfl
                case o28 => exact obl_none rfl
                case o29 => exact obl_none rfl
                case o30 =>
                  refine obl_pure rfl ?_
                  intro ρ wx hp hC h
                  have hcst := hp.const
                  have e0 : ρ (.tmp 59) = (.bool true) := h.1
                  have e2 : ρ (.tmp 70) = undef := h.2.2.1
                  have hg1 := hC.cell g1
                  have hg2 := hC.cell g2
                  have hg3 := hC.cell g3
                  have hs2 := s2.ext hC
                  go_simp
                case fin =>
                  intro wx hC
                  rintro _ rfl
                  change wpList _ _ _ _ _ _
                  simp only [List.length_cons, List.length_nil, List.drop_succ_cons, List.drop_zero, Act.put, List.setIfInBounds_toArray, List.set_cons_succ, List.set_cons_zero]
                  go_wp2
                  go_meet
                  exact ⟨true, rfl, hE.trans hC, Lib.hid (fun h => by cases h), Lib.hid (fun _ h => by have := (h.perms _ (getD_mem (i := k + 1) (by have := HX.out; omega))).2; have e1 := s1.len; have e2 := s2.len; omega)⟩
          case rest =>
            obtain ⟨b, rfl, hE1, HF1, HT1⟩ := hcut
            cases b with
            | true =>
              have HG := Lib.hid (isGB_false (HT1.out rfl))
              clear HT1 HF1
              go_wp2
              go_ret
              exact ⟨retB HG.out, hE0.trans hE1⟩
            | false =>
              go_wp2
              go_roundw
              case rel => exact ⟨k + 1, by go_num, by omega, hE1, Lib.hid (HF1.out rfl)⟩
              case measure => simp [intOf]; omega
        · obtain ⟨hpm, hsort⟩ := HK.out.all (by have := HX.out; omega)
          have HPM := Lib.hid hpm
          have HSO := Lib.hid hsort
          have hm6 : (ls.getD 0 []).length ≤ 6 := (perm_spec hv0).1
          have ek : k + 1 = n := by omega
          clear HK hpm hsort ek
          have hEo := hE0.trans hE
          obtain ⟨wo, rfl⟩ : ∃ wo : World, wo = wr := ⟨_, rfl⟩
          go_wp2
          go_loopw [4] (fun iv wr => ∃ i : Nat, iv = .int .i64 i ∧ i ≤ n ∧ Ext wo wr ∧ Hid (∀ x y, x < i → y < n → comp (ls.getD x []) (ls.getD y []) ∈ ls)) (fun iv _ => n - (intOf iv).toNat)
          case atStart => exact ⟨0, rfl, Nat.zero_le _, Ext.refl _, Lib.hid (fun x y h => by omega)⟩
          case round =>
            obtain ⟨i, rfl, hi, hE2, HC⟩ := hrel
            by_cases hin : i < n
            · obtain ⟨wo2, rfl⟩ : ∃ wo2 : World, wo2 = wr := ⟨_, rfl⟩
              go_wp2
              go_loopw [5] (fun kv wr => ∃ k : Nat, kv = .int .i64 k ∧ k ≤ n ∧ Ext wo2 wr ∧ Hid (∀ y, y < k → comp (ls.getD i []) (ls.getD y []) ∈ ls)) (fun kv _ => n - (intOf kv).toNat)
              case atStart => exact ⟨0, rfl, Nat.zero_le _, Ext.refl _, Lib.hid (fun y h => by omega)⟩
              case round =>
                obtain ⟨k, rfl, hk, hE, HD⟩ := hrel
                have hxr := (hxr.ext hE2).ext hE
                by_cases hkn : k < n
                · obtain ⟨b1, o1, a2, m, c2, rfl, g2, s2⟩ := hxr.at (k := i) hin
                  obtain ⟨b3, o3, a3, m3, c3, e3, g3, s3⟩ := hxr.at (k := k) hkn
                  simp only [Option.some.injEq, Addr.mk.injEq, and_true] at e3
                  obtain ⟨rfl, rfl⟩ := e3
                  have q1 := HPM.out _ (getD_mem (i := i) (by have := HX.out; omega))
                  have q2 := HPM.out _ (getD_mem (i := k) (by have := HX.out; omega))
                  have em : m3 = m := by have e1 := s2.len; have e2 := s3.len; omega
                  subst em
                  have hm : m3 ≤ 6 := by have e1 := s2.len; omega
                  have HDn := Lib.hid (fun (h : comp (ls.getD i []) (ls.getD k []) ∈ ls) y (hy : y < k + 1) => show comp (ls.getD i []) (ls.getD y []) ∈ ls from by
                    by_cases he : y = k
                    · subst he; exact h
                    · exact HD.out y (by omega))
                  have HNo := Lib.hid (fun (h : comp (ls.getD i []) (ls.getD k []) ∉ ls) (hg : isG ls) => h (hg.comp (by have := HX.out; omega) (by have := HX.out; omega)))
                  generalize ls.getD i [] = pi at *
                  generalize ls.getD k [] = pk at *
                  have hin : ∀ j, j < m3 → 0 ≤ pk.getD j 0 ∧ pk.getD j 0 < m3 := by
                    intro j hj
                    have e2 := s3.len
                    have := perm_at q2.1 (i := j) (by omega)
                    omega
                  have hsort := HSO.out
                  obtain ⟨fb, hfb⟩ : ∃ fb, decide (comp pi pk ∈ ls) = fb := ⟨_, rfl⟩
                  go_upto_region 14 with (fail)
                  go_cut [7] from 78 to 99 (fun s wx => ∃ b, s = .bool b ∧ Ext wo2 wx ∧ decide (comp pi pk ∈ ls) = b)
                  case first =>
                    refine wp_region_typed (by kernel_rfl) (fun wx => Ext wr wx)
                      [he (.slice (some ⟨b1, o1, none⟩) n c),
   he (.slice (some ⟨b1, o1, none⟩) n c),
   he (.int .i64 (i : Int)),
   he (.pointer (some ⟨b1, (o1 + i), none⟩)),
   he (.slice a2 m3 c2),
   he (.slice (some ⟨b1, o1, none⟩) n c),
   he (.int .i64 (k : Int)),
   he (.pointer (some ⟨b1, (o1 + k), none⟩)),
   he (.slice a3 m3 c3),
   hp (fun v wx => ∃ a' n' c', v = .slice a' n' c' ∧ SlI wx a' n' c' (comp pi pk)),
   hp (fun v wx => v = .tuple #[.int .i64 (posL ls (comp pi pk)), .bool fb]),
   he (.tuple #[.int .i64 (posL ls (comp pi pk)), .bool fb]),
   he (.int .i64 (posL ls (comp pi pk))),
   he (.bool fb),
   he (.int .i64 (posL ls (comp pi pk))),
   he (.bool fb)]
                      (by kernel_rfl) (fun _ _ e h => h.trans e) ((Ext.refl wr).drew) ⟨trivial, trivial, trivial, trivial, trivial, trivial, trivial, trivial, trivial, fun v w w' e ⟨a', n', c', h1, h2⟩ => ⟨a', n', c', h1, h2.ext e⟩, fun v w w' e h => h, trivial, trivial, trivial, trivial, trivial, trivial⟩ ⟨?o0, ?o1, ?o2, ?o3, ?o4, ?o5, ?o6, ?o7, ?o8, ?o9, ?o10, ?o11, ?o12, ?o13, ?o14, ?o15, trivial⟩ ?fin
                    case o0 => exact obl_pmove rfl (.inl rfl) (fun _ _ _ h => h.1)
                    case o1 => exact obl_pmove rfl (.inl rfl) (fun _ _ _ h => h.1)
                    case o2 => exact obl_pmove rfl (.inl rfl) (fun _ _ _ h => h.1)
                    case o3 =>
                      refine obl_pure rfl ?_
                      intro ρ wx hp hC h
                      have hcst := hp.const
                      have e0 : ρ (.tmp 86) = (.slice (some ⟨b1, o1, none⟩) n c) := h.1
                      have e1 : ρ (.tmp 87) = (.int .i64 (i : Int)) := h.2.1
                      have hg2 := hC.cell g2
                      have hg3 := hC.cell g3
                      go_simp
                      try (first | (intros; omega) | exact IntWalk.i64_in _ (by omega))
                    case o4 =>
                      refine obl_pure rfl ?_
                      intro ρ wx hp hC h
                      have hcst := hp.const
                      have e0 : ρ (.tmp 88) = (.pointer (some ⟨b1, (o1 + i), none⟩)) := h.1
                      have hg2 := hC.cell g2
                      have hg3 := hC.cell g3
                      go_simp
                    case o5 => exact obl_pmove rfl (.inl rfl) (fun _ _ _ h => h.1)
                    case o6 => exact obl_pmove rfl (.inl rfl) (fun _ _ _ h => h.1)
                    case o7 =>
                      refine obl_pure rfl ?_
                      intro ρ wx hp hC h
                      have hcst := hp.const
                      have e0 : ρ (.tmp 90) = (.slice (some ⟨b1, o1, none⟩) n c) := h.1
                      have e1 : ρ (.tmp 91) = (.int .i64 (k : Int)) := h.2.1
                      have hg2 := hC.cell g2
                      have hg3 := hC.cell g3
                      go_simp
                      try (first | (intros; omega) | exact IntWalk.i64_in _ (by omega))
                    case o8 =>
                      refine obl_pure rfl ?_
                      intro ρ wx hp hC h
                      have hcst := hp.const
                      have e0 : ρ (.tmp 92) = (.pointer (some ⟨b1, (o1 + k), none⟩)) := h.1
                      have hg2 := hC.cell g2
                      have hg3 := hC.cell g3
                      go_simp
                    case o9 =>
                      refine obl_call rfl ?_
                      intro ρ wx hp hC h
                      have hcst := hp.const
                      have hfn := hp.func
                      have e1 : ρ (.tmp 89) = (.slice a2 m3 c2) := h.2.1
                      have e2 : ρ (.tmp 93) = (.slice a3 m3 c3) := h.2.2.1
                      have hg2 := hC.cell g2
                      have hg3 := hC.cell g3
                      refine ⟨42, #[.slice a2 m3 c2, .slice a3 m3 c3], by go_simp, (ref_Product (s2.ext hC) (s3.ext hC) hin (by omega)).mono ?_⟩
                      rintro e w' ⟨a', n', c', rfl, hE', hO'⟩
                      exact ⟨_, rfl, hE', a', n', c', rfl, hO'.sl⟩
                    case o10 =>
                      refine obl_call rfl ?_
                      intro ρ wx hp hC h
                      have hcst := hp.const
                      have hfn := hp.func
                      have e1 : ρ (.tmp 85) = (.slice (some ⟨b1, o1, none⟩) n c) := h.2.1
                      obtain ⟨v2, e2, a2, n2, c2, rfl, s2⟩ := h.2.2.1
                      have hg2 := hC.cell g2
                      have hg3 := hC.cell g3
                      refine ⟨41, #[.slice (some ⟨b1, o1, none⟩) n c, .slice a2 n2 c2], by go_simp, (ref_place' (hxr.ext hC) s2 hsort (by omega)).mono ?_⟩
                      rintro e w' ⟨rfl, hQ'⟩
                      exact ⟨_, rfl, hQ'.ext, by rw [hfb]⟩
                    case o11 =>
                      refine obl_pure rfl ?_
                      intro ρ wx hp hC h
                      have hcst := hp.const
                      obtain ⟨v0, e0, rfl⟩ := h.1
                      have hg2 := hC.cell g2
                      have hg3 := hC.cell g3
                      go_simp
                    case o12 =>
                      refine obl_pure rfl ?_
                      intro ρ wx hp hC h
                      have hcst := hp.const
                      have e0 : ρ (.tmp 84) = (.tuple #[.int .i64 (posL ls (comp pi pk)), .bool fb]) := h.1
                      have hg2 := hC.cell g2
                      have hg3 := hC.cell g3
                      go_simp
                    case o13 =>
                      refine obl_pure rfl ?_
                      intro ρ wx hp hC h
                      have hcst := hp.const
                      have e0 : ρ (.tmp 84) = (.tuple #[.int .i64 (posL ls (comp pi pk)), .bool fb]) := h.1
                      have hg2 := hC.cell g2
                      have hg3 := hC.cell g3
                      go_simp
                    case o14 => exact obl_pmove rfl (.inr rfl) (fun _ _ _ h => h.1)
                    case o15 => exact obl_pmove rfl (.inr rfl) (fun _ _ _ h => h.1)
                    case fin =>
                      intro wx hC
                      rintro _ ⟨a94, n94, c94, rfl, s94⟩
                      rintro _ rfl
                      change wpList _ _ _ _ _ _
                      simp only [List.length_cons, List.length_nil, List.drop_succ_cons, List.drop_zero, Act.put, List.setIfInBounds_toArray, List.set_cons_succ, List.set_cons_zero]
                      go_wp2
                      go_meet
                      exact ⟨fb, rfl, hE.trans hC, hfb⟩
                  case rest =>
                    obtain ⟨b, rfl, hE3, hb⟩ := hcut
                    cases b with
                    | false =>
                      have HG := Lib.hid (isGB_false (HNo.out (by simpa using hb)))
                      clear hb hfb
                      go_wp2
                      go_ret
                      exact ⟨retB HG.out, (hEo.trans hE2).trans hE3⟩
                    | true =>
                      have HDk := Lib.hid (HDn.out (by simpa using hb))
                      clear hb hfb
                      go_wp2
                      go_roundw
                      case rel => exact ⟨k + 1, by go_num, by omega, hE3, HDk⟩
                      case measure => simp [intOf]; omega
                · have ek : k = n := by omega
                  have HD' := HD.out
                  rw [ek] at HD'
                  have HC2 := Lib.hid (fun x y (hx : x < i + 1) (hy : y < n) => show comp (ls.getD x []) (ls.getD y []) ∈ ls from by
                    by_cases he : x = i
                    · subst he; exact HD' y hy
                    · exact HC.out x y (by omega) hy)
                  clear HD' HD ek
                  go_wp2
                  go_roundw
                  case rel => exact ⟨i + 1, by go_num, by omega, hE2.trans hE, HC2⟩
                  case measure => simp [intOf]; omega
            · have HG := Lib.hid (isGB_true (isG_of (by have := HX.out; omega) HID.out HPM.out HSO.out (fun x y hx hy => HC.out x y (by have := HX.out; omega) (by have := HX.out; omega))))
              go_wp2
              go_ret
              exact ⟨retB HG.out, hEo.trans hE2⟩

end Go.Proofs.Ytegmbdkdgpeahaa
