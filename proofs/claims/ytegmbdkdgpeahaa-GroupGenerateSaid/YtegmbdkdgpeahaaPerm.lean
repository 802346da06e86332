/- Plain facts about permutations of at most six numbers. -/
import Derived.Test.YtegmbdkdgpeahaaGrp4
namespace Go.Proofs.Ytegmbdkdgpeahaa

def gen : Nat → List Int → List (List Int)
  | 0, _ => [[]]
  | k + 1, pool => pool.flatMap fun x => (gen k (pool.erase x)).map (x :: ·)

theorem mem_gen : ∀ (k : Nat) (pool xs : List Int), xs.length = k → xs.Nodup → (∀ x ∈ xs, x ∈ pool) → xs ∈ gen k pool
  | 0, _, xs, hl, _, _ => by
    have : xs = [] := List.eq_nil_of_length_eq_zero hl
    simp [gen, this]
  | k + 1, pool, [], hl, _, _ => by simp at hl
  | k + 1, pool, x :: r, hl, hn, hs => by
    rw [List.nodup_cons] at hn
    simp only [gen, List.mem_flatMap, List.mem_map]
    refine ⟨x, hs x (by simp), r, mem_gen k (pool.erase x) r (by simpa using hl) hn.2 ?_, rfl⟩
    intro y hy
    have hne : y ≠ x := by rintro rfl; exact hn.1 hy
    exact (List.mem_erase_of_ne hne).2 (hs y (by simp [hy]))

def pw (xs : List Int) : Nat → List Int
  | 0 => idn xs.length
  | k + 1 => comp xs (pw xs k)

/-- the order: the first power that is the identity -/
def ordS (xs : List Int) : Nat := ((List.range 6).find? (fun k => pw xs (k + 1) == idn xs.length)).elim 0 (· + 1)

def checkP (xs : List Int) : Bool :=
  comp xs (invTo xs xs.length) == idn xs.length && (((List.range 6).find? (fun k => pw xs (k + 1) == idn xs.length)).isSome)

theorem brute : ∀ n, n < 7 → ∀ xs ∈ gen n (idn n), checkP xs = true := by decide +kernel

theorem mem_idn {x : Int} {n : Nat} : x ∈ idn n ↔ 0 ≤ x ∧ x < n := by
  simp only [idn, List.mem_map, List.mem_range]
  constructor
  · rintro ⟨k, hk, rfl⟩
    simp; omega
  · rintro ⟨h0, h1⟩
    exact ⟨x.toNat, by omega, by simp; omega⟩

theorem perm_check {xs : List Int} (h : permB xs = true) : checkP xs = true := by
  obtain ⟨h6, hr, hn⟩ := perm_spec h
  exact brute xs.length (by omega) xs (mem_gen _ _ _ rfl hn (fun x hx => mem_idn.2 (hr x hx)))

theorem inv_right {xs : List Int} (h : permB xs = true) : comp xs (invTo xs xs.length) = idn xs.length := by
  have := perm_check h
  unfold checkP at this
  rw [Bool.and_eq_true] at this
  simpa using this.1

theorem ord_spec {xs : List Int} (h : permB xs = true) : 1 ≤ ordS xs ∧ ordS xs ≤ 6 ∧ pw xs (ordS xs) = idn xs.length ∧ ∀ k, 1 ≤ k → k < ordS xs → pw xs k ≠ idn xs.length := by
  have := perm_check h
  unfold checkP at this
  rw [Bool.and_eq_true] at this
  obtain ⟨k, hk⟩ := Option.isSome_iff_exists.1 this.2
  have e : ordS xs = k + 1 := by unfold ordS; rw [hk]; rfl
  have h1 := List.mem_of_find?_eq_some hk
  have h2 := List.find?_some hk
  have h3 : k < 6 := by simpa using h1
  refine ⟨by omega, by omega, by rw [e]; simpa using h2, ?_⟩
  intro j hj1 hj2 hj
  rw [List.find?_eq_some_iff_getElem] at hk
  obtain ⟨_, i, hi, hik, hlt⟩ := hk
  have hik' : i = k := by simpa using hik
  have := hlt (j - 1) (by omega)
  simp only [List.getElem_range] at this
  rw [show j - 1 + 1 = j by omega, hj] at this
  simp at this

theorem perml_perm_cons (l : List Int) (n : Nat) : (perml l (n + 1)).Perm ((n : Int) :: perml l n) := by
  simp only [perml]
  have := (List.perm_middle (a := (n : Int)) (l₁ := (perml l n).take (plc l n)) (l₂ := (perml l n).drop (plc l n)))
  rw [List.take_append_drop] at this
  simpa using this

theorem perml_mem (l : List Int) : ∀ (n : Nat) (x : Int), x ∈ perml l n ↔ 0 ≤ x ∧ x < n
  | 0, x => by simp [perml]
  | n + 1, x => by
    rw [(perml_perm_cons l n).mem_iff, List.mem_cons, perml_mem l n]
    omega
theorem perml_nodup (l : List Int) : ∀ n, (perml l n).Nodup
  | 0 => by simp [perml]
  | n + 1 => by
    rw [(perml_perm_cons l n).nodup_iff, List.nodup_cons]
    exact ⟨by rw [perml_mem]; omega, perml_nodup l n⟩
theorem perml_perm (l : List Int) {n : Nat} (h : n ≤ 6) : permB (perml l n) = true := by
  refine decide_eq_true ⟨by rw [perml_len]; exact h, ?_, perml_nodup l n⟩
  intro x hx
  rw [perml_len]
  exact (perml_mem l n x).1 hx

theorem getD_map_lt {f : Int → Int} {l : List Int} {k : Nat} (h : k < l.length) : (l.map f).getD k 0 = f (l.getD k 0) := by
  simp [List.getD_eq_getElem?_getD, h]
theorem comp_assoc {a b c : List Int} (h : ∀ y ∈ c, 0 ≤ y ∧ y < b.length) : comp (comp a b) c = comp a (comp b c) := by
  unfold comp
  rw [List.map_map]
  apply List.map_congr_left
  intro y hy
  have := h y hy
  exact getD_map_lt (by omega)

theorem comp_mem {a b : List Int} (ha : permB a = true) (hb : permB b = true) (hl : a.length = b.length) : ∀ x ∈ comp a b, 0 ≤ x ∧ x < a.length := by
  intro x hx
  simp only [comp, List.mem_map] at hx
  obtain ⟨y, hy, rfl⟩ := hx
  have h1 := (perm_spec hb).2.1 y hy
  exact perm_at ha (by omega)
theorem nodup_inj {l : List Int} (h : l.Nodup) {i j : Nat} (hi : i < l.length) (hj : j < l.length) (e : l[i] = l[j]) : i = j := by
  rcases Nat.lt_trichotomy i j with h1 | h1 | h1
  · exact absurd e (List.pairwise_iff_getElem.1 h i j hi hj h1)
  · exact h1
  · exact absurd e.symm (List.pairwise_iff_getElem.1 h j i hj hi h1)
theorem comp_perm {a b : List Int} (ha : permB a = true) (hb : permB b = true) (hl : a.length = b.length) : permB (comp a b) = true := by
  refine decide_eq_true ⟨by rw [comp_len, ← hl]; exact (perm_spec ha).1, ?_, ?_⟩
  · intro x hx
    rw [comp_len, ← hl]
    exact comp_mem ha hb hl x hx
  · have hna := (perm_spec ha).2.2
    have hnb := (perm_spec hb).2.2
    unfold comp
    rw [List.Nodup, List.pairwise_map]
    refine List.Pairwise.imp_of_mem ?_ hnb
    intro x y hx hy hne he
    have h1 := (perm_spec hb).2.1 x hx
    have h2 := (perm_spec hb).2.1 y hy
    have e1 : x.toNat < a.length := by omega
    have e2 : y.toNat < a.length := by omega
    simp only [List.getD_eq_getElem?_getD, List.getElem?_eq_getElem e1, List.getElem?_eq_getElem e2, Option.getD_some] at he
    have := nodup_inj hna e1 e2 he
    omega

end Go.Proofs.Ytegmbdkdgpeahaa
