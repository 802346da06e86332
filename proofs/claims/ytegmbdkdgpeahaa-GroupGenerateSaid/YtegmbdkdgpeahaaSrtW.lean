/- The world that the library's sort leaves, in the words of these walks. -/
import Derived.Test.YtegmbdkdgpeahaaSrt2
import Derived.Shelf.GgSortFunc.Insertion
namespace Go.Proofs.Ytegmbdkdgpeahaa
open Go Go.RowKit Go.Sort

/-- a slice of ints that lies outside block g, with what it holds -/
def SlV (w : World) (g : Nat) : Type := { v : (Option Addr × Nat × Nat) × List Int // SlI w v.1.1 v.1.2.1 v.1.2.2 v.2 ∧ blk v.1.1 ≠ some g }
def SlV.enc {w : World} {g : Nat} (v : SlV w g) : Value := .slice v.1.1.1 v.1.1.2.1 v.1.1.2.2
def SlV.xs {w : World} {g : Nat} (v : SlV w g) : List Int := v.1.2
instance (w : World) (g : Nat) : Inhabited (SlV w g) := ⟨⟨((none, 0, 0), []), Sl.nil w, by simp [blk]⟩⟩

theorem Sl.kept {w w' : World} {row : Option Nat} {a : Option Addr} {n c : Nat} {cs : List Value} (h : Sl w a n c cs) (hg : w.grownBy w' row) (hne : blk a = none ∨ blk a ≠ row) : Sl w' a n c cs := by
  refine ⟨h.len, h.cap, h.max, fun h0 => ?_⟩
  obtain ⟨b, off, rfl, hc⟩ := h.rd h0
  refine ⟨b, off, rfl, fun i hi => ?_⟩
  have h1 := hc i hi
  have hb : b < w.heap.size := World.block_lt_of_cell? w ⟨b, off + i, none⟩ h1
  rcases hne with hne | hne
  · simp [blk] at hne
  · rw [World.cell?_of_block (w := w) (hg.block b hb hne), h1]

theorem sortWorld_grown {α : Type} [Inhabited α] (enc : α → Value) (w : World) (g m : Nat) (dk : Array α) (os : Array Obj) : w.grownBy (sortWorld enc w g 0 m dk os) (some g) := by
  refine ⟨rfl, rfl, rfl, by unfold sortWorld; simp, fun k hk hne => ?_⟩
  unfold sortWorld
  rw [heap_grow_old _ _ (by simpa using hk)]
  have : g ≠ k := by rintro rfl; exact hne rfl
  simp [putRow, mapBlock, Array.getElem?_modify, this]

theorem sortWorld_own {α : Type} [Inhabited α] (enc : α → Value) {w : World} {base g n c m : Nat} {e : TypeId} {cells : List Value} {dk : Array α} (os : Array Obj) (h : Own w base e (some ⟨g, 0, none⟩) n c cells) (hd : dk.size = n) :
    Own (sortWorld enc w g 0 m dk os) base e (some ⟨g, 0, none⟩) n c (dk.toList.map enc) := by
  rcases h.2 with ⟨hv, _⟩ | ⟨g1, cap1, cur1, hv, hb, hh, h1, h2, h3, h4⟩
  · simp at hv
  simp only [Value.slice.injEq, Option.some.injEq, Addr.mk.injEq, and_true, true_and] at hv
  obtain ⟨rfl, rfl⟩ := hv
  have hlt : g < w.heap.size := by
    rcases Nat.lt_or_ge g w.heap.size with h | h
    · exact h
    · simp [Array.getElem?_eq_none h] at hh
  refine ⟨by simp [hd], Or.inr ⟨g, c, putCells enc 0 dk cur1, rfl, hb, ?_, h1, h2, by simp [putCells, h3], ?_⟩⟩
  · unfold sortWorld
    rw [heap_grow_old _ _ (by simpa using hlt)]
    simp [putRow, mapBlock, Array.getElem?_modify, hh, onCells]
  · apply List.ext_getElem
    · simp [putCells, h3, hd]
      omega
    · intro i i1 i2
      have hi : i < n := by simpa [hd] using i2
      have hi2 : i < dk.size := by omega
      simp only [List.getElem_take, Array.getElem_toList, putCells, Array.getElem_mapIdx, List.getElem_map]
      rw [if_pos (by omega)]
      simp [hi2]

/-- the elements as the sort's contract takes them -/
theorem srt_elems {w : World} {base g n c : Nat} {ps : List (List Int)} (hS : Srt w base g n c ps) : ∃ d : Array (SlV w g), d.size = n ∧ (∀ i, i < n → w.cell? ⟨g, i, none⟩ = some d[i]!.enc ∧ w.frozen? ⟨g, i, none⟩ = false) ∧ d.toList.map SlV.xs = ps := by
  obtain ⟨hl, cells, hO, hQ⟩ := hS
  have hex : ∀ i, ∃ v : SlV w g, i < n → w.cell? ⟨g, i, none⟩ = some v.enc ∧ v.xs = ps.getD i [] := by
    intro i
    by_cases hi : i < n
    · obtain ⟨a, m, c', e1, h1⟩ := hQ i (by omega)
      refine ⟨⟨((a, m, c'), ps.getD i []), h1.sl, ?_⟩, fun _ => ⟨?_, rfl⟩⟩
      · have := own_ne_own h1 hO (by decide)
        rcases this with h | h
        · simp only; rw [h]; simp
        · exact h
      · rw [hO.cellAt hi, e1]
        rfl
    · exact ⟨default, fun h => absurd h hi⟩
  obtain ⟨f, hf⟩ := Classical.axiomOfChoice hex
  refine ⟨((List.range n).map f).toArray, by simp, fun i hi => ?_, ?_⟩
  · have : (((List.range n).map f).toArray)[i]! = f i := by simp [hi]
    rw [this]
    exact ⟨(hf i hi).1, hO.frozenAt i⟩
  · apply List.ext_getElem
    · simp [hl]
    · intro i h1 h2
      have hi : i < n := by simpa using h1
      simp only [List.getElem_map, List.getElem_range]
      rw [(hf i hi).2]
      simp [List.getD_eq_getElem?_getD, h2]

def cfV {w : World} {g : Nat} (x y : SlV w g) : Int := cmpL x.xs y.xs

theorem srt_back {w : World} {base g n c m : Nat} {ps : List (List Int)} {d' : Array (SlV w g)} {os : Array Obj} (hS : Srt w base g n c ps) (hd : d'.size = n) (hown : ∀ v ∈ d'.toList, ∃ i, i < n ∧ w.cell? ⟨g, i, none⟩ = some v.enc ∧ v.xs = ps.getD i []) :
    Srt (sortWorld SlV.enc w g 0 m d' os) base g n c (d'.toList.map SlV.xs) := by
  obtain ⟨hl, cells, hO, hQ⟩ := hS
  refine ⟨by simp [hd], d'.toList.map SlV.enc, sortWorld_own _ os hO hd, fun i hi => ?_⟩
  simp only [List.length_map] at hi
  have hi' : i < d'.toList.length := by simpa using hi
  obtain ⟨j, hj, h1, h2⟩ := hown d'.toList[i] (List.getElem_mem hi')
  obtain ⟨a, k, c', e1, h3⟩ := hQ j (by omega)
  refine ⟨a, k, c', ?_, ?_⟩
  · rw [hO.cellAt hj, e1] at h1
    simp only [Option.some.injEq] at h1
    rw [h1, List.getD_eq_getElem?_getD, List.getElem?_map, List.getElem?_eq_getElem hi']
    rfl
  · have e2 : (d'.toList.map SlV.xs).getD i [] = ps.getD j [] := by
      rw [← h2, List.getD_eq_getElem?_getD, List.getElem?_map, List.getElem?_eq_getElem hi']
      rfl
    rw [e2]
    exact Own.kept h3 (sortWorld_grown _ _ _ _ _ _) (own_ne_own h3 hO (by decide))

end Go.Proofs.Ytegmbdkdgpeahaa
