/- The contracts of SortFunc at short slices, of slices.Clone and of sorted. -/
import Derived.Test.YtegmbdkdgpeahaaSrt2
import Derived.Test.YtegmbdkdgpeahaaShelf
import Derived.WalkSpells
import Derived.Maps.RangeWalk
namespace Go.Proofs.Ytegmbdkdgpeahaa
open Go Go.RowKit

set_option maxHeartbeats 1000000 in
theorem pdqsort_small {base g n c : Nat} {L : Int} {ps : List (List Int)} {w : World} (hS : Srt w base g n c ps) (hn : n ≤ 12) :
    Calls Try.prog 53 #[.slice (some ⟨g, 0, none⟩) n c, .int .i64 0, .int .i64 n, .int .i64 L, .func (.func 37) #[] #[]] w (SrtPost w base g n c ps 0 n) := by
  go_enter Try.func53, Try.ntmps53
  go_wp2_with fail
  go_loopw [1, 2] (fun a b wr => a = .int .i64 0 ∧ b = .int .i64 n ∧ wr = w) (fun _ _ _ => 0)
  case atStart => exact ⟨rfl, rfl, rfl⟩
  case round =>
    obtain ⟨rfl, rfl, rfl⟩ := hrel
    go_wp2_with fail
    refine (insertionSort (a := 0) hS (Nat.zero_le _) (Nat.le_refl _) (by omega)).mono ?_
    rintro e w1 ⟨rfl, h⟩
    go_wp2
    go_end0
    exact ⟨rfl, h⟩

set_option maxHeartbeats 1000000 in
theorem SortFunc_small {base g n c : Nat} {ps : List (List Int)} {w : World} (hS : Srt w base g n c ps) (hn : n ≤ 12) :
    Calls Try.prog 48 #[.slice (some ⟨g, 0, none⟩) n c, .func (.func 37) #[] #[]] w (SrtPost w base g n c ps 0 n) := by
  go_enter Try.func48, Try.ntmps48
  go_wp2_with fail
  refine (bits_Len _ _ (by omega) (by omega)).mono ?_
  rintro e w1 ⟨rfl, rfl⟩
  go_wp2_with fail
  refine (pdqsort_small hS hn).mono ?_
  rintro e w1 ⟨rfl, h⟩
  go_wp2
  go_end0
  exact ⟨rfl, h⟩

set_option maxHeartbeats 1000000 in
theorem slices_Clone {a : Option Addr} {n c : Nat} {xs : List Int} {w : World} (hx : SlI w a n c xs) (hn : n ≤ 1000000) (hnil : a = none → c = 0) :
    Calls Try.prog 47 #[.slice a n c] w (RetI w xs) := by
  cases a with
  | none =>
    have h0 : c = 0 := hnil rfl
    subst h0
    have h1 : n = 0 := by have := Sl.cap hx; omega
    subst h1
    have hxs : xs = [] := List.eq_nil_of_length_eq_zero hx.len
    have HX := Lib.hid hxs
    clear hxs
    have heq := fun w' : World => Lib.run_eql_slice_nil (P := Try.prog) w' 22 3 none 0 0 0 0 Try.underlying22
    go_enter Try.func47, Try.ntmps47
    go_wp2
    go_ret
    exact ⟨none, 0, 0, rfl, Ext.refl w, by rw [HX.out]; exact Own.nil _ _ _⟩
  | some ad =>
    have heq := fun w' : World => Lib.run_eql_slice_nil (P := Try.prog) w' 22 3 (some ad) n c 0 0 Try.underlying22
    go_enter Try.func47, Try.ntmps47
    go_upto_region 3 with (fail)
    have hA : Ext w (w.alloc (.cells #[] 3)) := (Ext.refl w).alloc _
    have hO := own_alloc w w.heap.size 3 #[] 0 rfl (Nat.le_refl _) (by omega)
    go_wp2_with (refine wl_app rfl rfl Try.underlying22 info_int rfl rfl hO rfl (hx.ext hA) (ints_one _) (by unfold maxLen; omega) (by omega) (by simp) ?_; intro a1 c1 w1 hO1 hg1 hb1)
    go_ret
    refine ⟨a1, n, c1, rfl, hA.grown hg1 (fun k hk => (hO.lt hk).1), ?_⟩
    simpa [OwnI] using hO1

/-- returns a new slice of slices of ints, whole from its block's head on -/
def RetS (w : World) (ps : List (List Int)) (e : Ending) (w' : World) : Prop :=
  ∃ a n c cells, e = .returned (.slice a n c) ∧ Ext w w' ∧ n = ps.length ∧ Own w' w.heap.size 22 a n c cells ∧ QEl w' w.heap.size cells ps

def seenLen (w : World) (it : Nat) : Nat := match w.heap[it]? with | some (.mapIter _ _ seen _) => seen.size | _ => 0
theorem seenLen_of {w : World} {it r n : Nat} {seen : List Nat} (h : IterIs w it r n seen) : seenLen w it = seen.length := by
  unfold seenLen
  unfold IterIs at h
  rw [h]
  simp

/-- what holds at the head of the loop over the map -/
def SoR (w0 : World) (L : List (List Int)) (r it : Nat) (v : Value) (wr : World) : Prop :=
  ∃ seen al nl cl cells, v = .slice al nl cl ∧ nl = seen.length ∧ Ext w0 wr ∧ w0.heap.size ≤ it ∧ MapIs wr r (kmap L) ∧ IterIs wr it r L.length seen ∧ seen.Nodup ∧ (∀ i ∈ seen, i < L.length) ∧
    Own wr w0.heap.size 22 al nl cl cells ∧ QEl wr w0.heap.size cells (seen.map (fun i => L.getD i []))

theorem own_ne_iter {w : World} {base : Nat} {e : TypeId} {a : Option Addr} {n c it r k : Nat} {cs : List Value} {seen : List Nat} (h : Own w base e a n c cs) (hi : IterIs w it r k seen) : blk a = none ∨ blk a ≠ some it := by
  rcases h.2 with ⟨hv, _⟩ | ⟨g, cap, cur, hv, _, hh, _⟩
  · simp only [Value.slice.injEq] at hv
    left
    rw [hv.1]
    rfl
  · simp only [Value.slice.injEq] at hv
    right
    rw [hv.1]
    intro he
    have : g = it := by simpa [blk] using he
    subst this
    unfold IterIs at hi
    rw [hh] at hi
    cases hi
theorem map_ne_iter {w : World} {it r r' k : Nat} {m : List (List Int × Value)} {seen : List Nat} (h : MapIs w r m) (hi : IterIs w it r' k seen) : some r ≠ some it := by
  intro he
  have : r = it := by simpa using he
  subst this
  unfold IterIs at hi
  rw [h.obj] at hi
  cases hi

theorem perm_of_mem {α : Type} [BEq α] [LawfulBEq α] {l k : List α} (hl : l.Nodup) (hk : k.Nodup) (h : ∀ a, a ∈ l ↔ a ∈ k) : l.Perm k := by
  rw [List.perm_iff_count]
  intro a
  have h1 := List.nodup_iff_count.1 hl a
  have h2 := List.nodup_iff_count.1 hk a
  have h3 : 0 < l.count a ↔ a ∈ l := List.count_pos_iff
  have h4 : 0 < k.count a ↔ a ∈ k := List.count_pos_iff
  have := h a
  by_cases hm : a ∈ l
  · have := h3.2 hm
    have := h4.2 ((h a).1 hm)
    omega
  · have e1 : ¬ 0 < l.count a := fun h => hm (h3.1 h)
    have e2 : ¬ 0 < k.count a := fun h' => hm ((h a).2 (h4.1 h'))
    omega
theorem map_range_getD (L : List (List Int)) : (List.range L.length).map (fun i => L.getD i []) = L := by
  apply List.ext_getElem
  · simp
  · intro i h1 h2
    simp [h2]
theorem seen_all {L : List (List Int)} {seen : List Nat} (hn : seen.Nodup) (hs : ∀ i ∈ seen, i < L.length) (hall : ∀ i, i < L.length → i ∈ seen) : (seen.map (fun i => L.getD i [])).Perm L ∧ seen.length = L.length := by
  have hp : seen.Perm (List.range L.length) := perm_of_mem hn List.nodup_range (fun a => by
    rw [List.mem_range]
    exact ⟨hs a, hall a⟩)
  refine ⟨?_, by simpa using hp.length_eq⟩
  have := hp.map (fun i => L.getD i [])
  rwa [map_range_getD] at this
theorem kmap_get {L : List (List Int)} {i : Nat} {k : List Int} {v : Value} (h : (kmap L)[i]? = some (k, v)) : i < L.length ∧ k = pad6 (L.getD i []) := by
  unfold kmap at h
  rw [List.getElem?_map] at h
  cases hi : L[i]? with
  | none => rw [hi] at h; cases h
  | some p =>
    rw [hi] at h
    have hlt : i < L.length := by
      rcases Nat.lt_or_ge i L.length with h' | h'
      · exact h'
      · simp [List.getElem?_eq_none h'] at hi
    refine ⟨hlt, ?_⟩
    simp only [Option.map_some, Option.some.injEq, Prod.mk.injEq] at h
    rw [List.getD_eq_getElem?_getD, hi]
    exact h.1.symm

theorem nodup_leN : ∀ (L M : List Nat), L.Nodup → (∀ x ∈ L, x ∈ M) → L.length ≤ M.length
  | [], _, _, _ => by simp
  | x :: L, M, hn, hs => by
    rw [List.nodup_cons] at hn
    have hx : x ∈ M := hs x (by simp)
    have := nodup_leN L (M.erase x) hn.2 (fun y hy => (List.mem_erase_of_ne (by rintro rfl; exact hn.1 hy)).2 (hs y (by simp [hy])))
    rw [List.length_erase_of_mem hx] at this
    have : 0 < M.length := List.length_pos_of_mem hx
    simp only [List.length_cons]
    omega

set_option maxHeartbeats 1000000 in
theorem group_sorted {n r : Nat} {L : List (List Int)} {w : World} (hM : MapIs w r (kmap L)) (hn : n ≤ 6) (hL : ∀ x ∈ L, x.length = n) (h12 : L.length ≤ 12) (h1 : 0 < L.length) :
    Calls Try.prog 34 #[.int .i64 n, .map (some r)] w (fun e w' => ∃ ps, RetS w ps e w' ∧ ps.Perm L ∧ ordOn ps 0 L.length) := by
  have HL := Lib.hid hL
  have hkl : (kmap L).length = L.length := by simp [kmap]
  have HKL := Lib.hid hkl
  clear hL hkl
  go_enter Try.func34, Try.ntmps34
  go_wp2_with (refine wl_range rfl rfl und_map rfl hM ?_; intro w1 hI1 hE1 hlt1)
  have hI1' : IterIs w1 w.heap.size r L.length [] := by rw [← HKL.out]; exact hI1
  go_frame
  go_loopw [5] (fun v wr => SoR w L r w.heap.size v wr) (fun _ wr => L.length - seenLen wr w.heap.size)
  case atStart => exact ⟨[], none, 0, 0, [], rfl, rfl, hE1, Nat.le_refl _, hM.ext hE1, hI1', by simp, by simp, Own.nil _ _ _, fun i hi => by simp at hi⟩
  case round =>
    clear hI1 hI1' hE1 hlt1
    obtain ⟨seen, al, nl, cl, cells, rfl, hnl, hE, hit, hM1, hI1, hsn, hsl, hO, hQ⟩ := hrel
    have HNL := Lib.hid hnl
    clear hnl
    rw [← HKL.out] at hI1
    by_cases hall : ∀ i, i < (kmap L).length → i ∈ seen
    · obtain ⟨hperm, hslen⟩ := seen_all hsn hsl (fun i hi => hall i (by rw [HKL.out]; exact hi))
      have hnlp : 0 < nl := by rw [HNL.out, hslen]; exact h1
      obtain ⟨g, rfl, hg1, hg2⟩ := hO.place hnlp
      have hS : Srt wr w.heap.size g nl cl (seen.map (fun i => L.getD i [])) := ⟨by rw [List.length_map]; exact HNL.out.symm, cells, hO, hQ⟩
      have hnl12 : nl ≤ 12 := by rw [HNL.out, hslen]; exact h12
      have HSL := Lib.hid hslen
      have HPM := Lib.hid hperm
      clear hslen hperm
      go_wp2_with (refine wl_next rfl rfl rfl hM1 hI1 (fun _ => ?_) (fun i _ _ _ h1 h2 _ _ _ => absurd (hall i h1) h2))
      refine (SortFunc_small hS hnl12).mono ?_
      rintro e w2 ⟨rfl, ps, hS2, hmv, hord, hgr⟩
      go_wp2
      go_ret
      obtain ⟨hl2, cells2, hO2, hQ2⟩ := hS2
      refine ⟨ps, ⟨_, _, _, cells2, rfl, hE.grown hgr (by intro k hk; simp at hk; omega), hl2.symm, hO2, hQ2⟩, hmv.1.trans HPM.out, ?_⟩
      rw [← HSL.out, ← HNL.out]
      exact hord
    · have hz := hE.size
      have HSN : Hid (seenLen wr w.heap.size = seen.length) := seenLen_of hI1
      go_upto_region 4 with (refine wl_next rfl rfl rfl hM1 hI1 (fun h => absurd h hall) ?_; intro i k v w2 hil his hmi hI2 hg2)
      obtain ⟨hiL, hk⟩ := kmap_get hmi
      have hpl : (L.getD i []).length = n := HL.out _ (by simp [List.getD_eq_getElem?_getD, hiL])
      have hM2 := hM1.kept hg2 (map_ne_iter hM1 hI1)
      have hO2 := hO.kept hg2 (own_ne_iter hO hI1)
      have hQ2 := hQ.kept hg2 (fun _ _ _ _ h => own_ne_iter h hI1)
      have hE2 : Ext w w2 := hE.grown hg2 (by intro k hk; simp at hk; omega)
      have hA := Arr.new w2 57 zero6
      have hAg : Agg Try.prog 57 (k.map (Value.int .i64)).length := by
        rw [List.length_map, hk, pad6_len (by rw [hpl]; exact hn)]
        exact agg_key
      have hz6 : zero6.length = (k.map (Value.int .i64)).length := by
        rw [List.length_map, hk, pad6_len (by rw [hpl]; exact hn)]
        rfl
      have HZ6 := Lib.hid hz6
      have HK := Lib.hid hk
      have HPL := Lib.hid hpl
      clear hz6 hk hpl hM1 hO hQ hE hI1 hg2
      go_upto_region 5 with (first
        | (refine wl_entry rfl rfl rfl hM2 hI2 hmi ?_)
        | (refine wl_stArr rfl rfl rfl rfl rfl hAg hA HZ6.out (ints_one _) ?_; intro w3 hB3 hg3))
      go_frame
      have hE23 : Ext w2 w3 := ((Ext.refl w2).alloc (.cells zero6.toArray 57)).grown hg3 (by intro k hk; simp at hk; omega)
      have hsl3 : SlI w3 (some ⟨w2.heap.size, 0, none⟩) n 6 (L.getD i []) := by
        have h1 := hB3.sl (k := n) (by rw [← HZ6.out]; exact hn) (by rw [← HZ6.out]; unfold maxLen; decide)
        rw [← HZ6.out, HK.out, ← List.map_take] at h1
        have h2 := pad6_take (L.getD i [])
        rw [HPL.out] at h2
        rw [h2] at h1
        exact h1
      have hE3 := hE2.trans hE23
      have hM3 := hM2.ext hE23
      have hI3 := hI2.ext hE23
      have hO3 := hO2.ext hE23
      have hQ3 := hQ2.ext hE23
      have hnl12 : nl ≤ 12 := by
        rw [HNL.out]
        have := nodup_leN seen (List.range L.length) hsn (fun x hx => by rw [List.mem_range]; exact hsl x hx)
        simp at this
        omega
      have hsa := fun wx : World => run_slice_arr (P := Try.prog) (w := wx) (g := w2.heap.size) keyT_key.arr info_int hn
      clear hB3 hg3 hE23 hA hM2 hI2 hO2 hQ2 hE2 hAg
      go_wp2_with fail
      refine (slices_Clone hsl3 (by omega) (by simp)).mono ?_
      rintro e w4 ⟨a4, n4, c4, rfl, hE4, hO4⟩
      have hO5 := hO3.ext hE4
      have hQ5 := hQ3.ext hE4
      have hM5 := hM3.ext hE4
      have hI5 := hI3.ext hE4
      have hE5 := hE3.trans hE4
      have hB5 : OwnI w4 w.heap.size a4 n4 c4 (L.getD i []) := Own.mono hO4 hE3.size
      clear hO3 hQ3 hM3 hI3 hE3 hE4 hO4 hsl3
      have hA6 : Ext w4 (w4.alloc (.cells #[.slice a4 n4 c4] 22)) := (Ext.refl w4).alloc _
      have hS6 := (own_alloc w4 w.heap.size 22 #[.slice a4 n4 c4] 1 rfl hE5.size (by omega)).sl
      have hO6 := hO5.ext hA6
      go_wp2_with (refine wl_app rfl rfl Try.underlying35 info_ints rfl rfl hO6 rfl hS6 (by simp [Value.oneCell']) (by unfold maxLen; omega) (by omega) (by have := hE5.size; simp; omega) ?_; intro a7 c7 w7 hO7 hg7 hb7)
      go_roundw
      case rel =>
        have hE6 := hE5.trans hA6
        have hI6 := hI5.ext hA6
        have hM6 := hM5.ext hA6
        have hx : ∀ k, blk al = some k → w.heap.size ≤ k := fun k hk => (hO6.lt hk).1
        refine ⟨seen ++ [i], a7, nl + 1, c7, _, rfl, by rw [HNL.out]; simp, hE6.grown hg7 hx, hit, hM6.kept hg7 ?_, ?_, ?_, ?_, hO7, ?_⟩
        · rcases own_ne_map hO6 hM6 with h | h
          · rw [h]; simp
          · exact fun h2 => h h2.symm
        · have : IterIs w7 w.heap.size r (kmap L).length (seen ++ [i]) := hI6.kept hg7 (by
            rcases own_ne_iter hO6 hI6 with h | h
            · rw [h]; simp
            · exact fun h2 => h h2.symm)
          rw [← HKL.out]
          exact this
        · rw [List.nodup_append]
          refine ⟨hsn, by simp, ?_⟩
          intro a ha b hb
          simp only [List.mem_singleton] at hb
          subst hb
          rintro rfl
          exact his ha
        · intro j hj
          rcases List.mem_append.1 hj with hj | hj
          · exact hsl j hj
          · simp only [List.mem_singleton] at hj
            subst hj
            exact hiL
        · have hQ7 := (hQ5.ext hA6).kept hg7 (fun _ _ _ _ h => own_ne_own h hO6 (by decide))
          have hB7 : OwnI w7 w.heap.size a4 n4 c4 (L.getD i []) := Own.kept (Own.ext hB5 hA6) hg7 (own_ne_own (Own.ext hB5 hA6) hO6 (by decide))
          rw [List.map_append]
          exact hQ7.snoc (by rw [hO6.len, HNL.out]; simp) hB7
      case measure =>
        have hI6 := hI5.ext hA6
        have e1 : seenLen w7 w.heap.size = seen.length + 1 := by
          have : IterIs w7 w.heap.size r (kmap L).length (seen ++ [i]) := hI6.kept hg7 (by
            rcases own_ne_iter hO6 hI6 with h | h
            · rw [h]; simp
            · exact fun h2 => h h2.symm)
          rw [seenLen_of this]
          simp
        have e2 := HSN.out
        have : seen.length ≤ L.length := by
          have := nodup_leN seen (List.range L.length) hsn (fun x hx => by rw [List.mem_range]; exact hsl x hx)
          simpa using this
        have h3 : seen.length < L.length := by
          have := nodup_leN (i :: seen) (List.range L.length) (List.nodup_cons.2 ⟨his, hsn⟩) (fun x hx => by
            rw [List.mem_range]
            rcases List.mem_cons.1 hx with rfl | hx
            · exact hiL
            · exact hsl x hx)
          simp at this
          omega
        rw [e1, e2]
        omega

end Go.Proofs.Ytegmbdkdgpeahaa
