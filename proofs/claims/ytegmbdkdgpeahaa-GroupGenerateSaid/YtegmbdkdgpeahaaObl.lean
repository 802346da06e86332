/- Notes of the operations on slices for the law of typed regions. Over any program. -/
import Derived.Test.YtegmbdkdgpeahaaLaws
import Derived.Test.YtegmbdkdgpeahaaRegion
namespace Go.Proofs.Ytegmbdkdgpeahaa
open Go Go.RowKit

section
variable {P : Program} {w : World}

theorem run_slice_to {t e : TypeId} {z : Value} {bytes : Nat} {a : Option Addr} {n c k : Nat} (ht : P.underlying t = some (.slice e)) (hinfo : Elem1 P e z bytes) (hk : k ≤ c) :
    (Instr.sliceAt t (.slice a n c) none (some (.int .i64 k)) none).run P w = .ok (.slice a k c) w := by
  obtain ⟨i, hi, hz, hsize, hby⟩ := info_parts hinfo
  have e1 : (if c = 0 then a else a.map (fun x => x.add 0)) = a := by
    split
    · rfl
    · cases a <;> simp [Addr.add]
  have h0 : (0 : Int) ≤ k := by omega
  have h1 : (k : Int) ≤ c := by omega
  simp [Instr.sliceAt, Instr.slice, Instr.sliceBounds, Instr.sliceBound, run_underlying ht, asIntOf, sizeOf, typeInfo, hi, hk, e1]

theorem run_slice_from {t e : TypeId} {z : Value} {bytes : Nat} {a : Option Addr} {n c k : Nat} (ht : P.underlying t = some (.slice e)) (hinfo : Elem1 P e z bytes) (hk : k ≤ n) :
    (Instr.sliceAt t (.slice a n c) (some (.int .i64 k)) none none).run P w = .ok (.slice (if c = k then a else a.map (fun x => x.add k)) (n - k) (c - k)) w := by
  obtain ⟨i, hi, hz, hsize, hby⟩ := info_parts hinfo
  simp [Instr.sliceAt, Instr.slice, Instr.sliceBounds, Instr.sliceBound, run_underlying ht, asIntOf, sizeOf, typeInfo, hi, hsize, hk]

theorem range0 : Array.range 0 = #[] := by decide
theorem range1 : Array.range 1 = #[0] := by decide
theorem run_lit0 {t e : TypeId} {z : Value} {bytes : Nat} (ht : P.underlying t = some (.slice e)) (hinfo : Elem1 P e z bytes) :
    (Instr.buildSlice t 0 #[]).run P w = .ok (.slice (some ⟨w.heap.size, 0, none⟩) 0 0) (w.alloc (.cells #[] e)) := by
  obtain ⟨i, hi, hz, hsize, hby⟩ := info_parts hinfo
  simp [Instr.buildSlice, run_underlying ht, sizeOf, typeInfo, hi, Instr.fill, newRow, range0]

theorem run_lit1 {t e : TypeId} {z : Value} {bytes : Nat} {v : Value} (ht : P.underlying t = some (.slice e)) (hinfo : Elem1 P e z bytes) (hz1 : z.cells = #[z]) (hv : v.cells = #[v]) :
    (Instr.buildSlice t 1 #[(0, v)]).run P w = .ok (.slice (some ⟨w.heap.size, 0, none⟩) 1 1) (w.alloc (.cells #[v] e)) := by
  obtain ⟨i, hi, hz, hsize, hby⟩ := info_parts hinfo
  simp [Instr.buildSlice, run_underlying ht, sizeOf, typeInfo, hi, hsize, Instr.fill, zeroValue, hz, hz1, hv, newRow, range1]
end

section
variable {P : Program} {ops : Array Oper} {hs : List Hd} {a0 : Act} {C : World → Prop} {i : Nat} {o : Oper}

theorem obl_slice_to {t e : TypeId} {z : Value} {bytes : Nat} {x y : Operand} {a : Option Addr} {n c k : Nat} (hg : o.guard = none) (ho : o.op = .slice t x none (some y) none)
    (ht : P.underlying t = some (.slice e)) (hinfo : Elem1 P e z bytes) (h : ∀ ρ w, Plain ρ → opnds ops hs a0 o ρ w [x, y] → ρ x = .slice a n c ∧ ρ y = .int .i64 k) (hk : k ≤ c) :
    obl P C ops hs a0 i o (he (.slice a k c)) :=
  obl_val hg fun ρ w hp _ hx => by
    rw [ho] at hx
    obtain ⟨h1, h2⟩ := h ρ w hp hx
    simp only [execOp, ho, h1, h2, Option.map_some, Option.map_none, Sem.run_bind, run_slice_to ht hinfo hk, Result.andThen_ok, Sem.run_pure]

theorem obl_slice_from {t e : TypeId} {z : Value} {bytes : Nat} {x y : Operand} {a : Option Addr} {n c k : Nat} (hg : o.guard = none) (ho : o.op = .slice t x (some y) none none)
    (ht : P.underlying t = some (.slice e)) (hinfo : Elem1 P e z bytes) (h : ∀ ρ w, Plain ρ → opnds ops hs a0 o ρ w [x, y] → ρ x = .slice a n c ∧ ρ y = .int .i64 k) (hk : k ≤ n) :
    obl P C ops hs a0 i o (he (.slice (if c = k then a else a.map (fun x => x.add k)) (n - k) (c - k))) :=
  obl_val hg fun ρ w hp _ hx => by
    rw [ho] at hx
    obtain ⟨h1, h2⟩ := h ρ w hp hx
    simp only [execOp, ho, h1, h2, Option.map_some, Option.map_none, Sem.run_bind, run_slice_from ht hinfo hk, Result.andThen_ok, Sem.run_pure]

theorem obl_lit0 {t e : TypeId} {z : Value} {bytes base : Nat} {cons : Option Nat} (hg : o.guard = none) (ho : o.op = .buildSlice t 0 #[])
    (ht : P.underlying t = some (.slice e)) (hinfo : Elem1 P e z bytes) (hb : ∀ w, C w → base ≤ w.heap.size) :
    obl P C ops hs a0 i o ⟨false, .pr (fun v wx => ∃ g, v = .slice (some ⟨g, 0, none⟩) 0 0 ∧ Own wx base e (some ⟨g, 0, none⟩) 0 0 []), cons⟩ :=
  obl_ext hg fun ρ w hp hC hx => by
    refine ⟨_, _, ?_, (Ext.refl w).alloc (.cells #[] e), w.heap.size, rfl, own_alloc w base e #[] 0 rfl (hb w hC) (by omega)⟩
    simp [execOp, ho, run_lit0 ht hinfo]

theorem obl_lit1 {t e : TypeId} {z : Value} {bytes base : Nat} {x : Operand} {v0 : Value} {cons : Option Nat} (hg : o.guard = none) (ho : o.op = .buildSlice t 1 #[(0, x)])
    (ht : P.underlying t = some (.slice e)) (hinfo : Elem1 P e z bytes) (hz1 : z.cells = #[z]) (hv : v0.cells = #[v0]) (hb : ∀ w, C w → base ≤ w.heap.size)
    (h : ∀ ρ w, Plain ρ → opnds ops hs a0 o ρ w [x] → ρ x = v0) :
    obl P C ops hs a0 i o ⟨false, .pr (fun v wx => ∃ g, v = .slice (some ⟨g, 0, none⟩) 1 1 ∧ Own wx base e (some ⟨g, 0, none⟩) 1 1 [v0]), cons⟩ :=
  obl_ext hg fun ρ w hp hC hx => by
    rw [ho] at hx
    have h1 := h ρ w hp hx
    refine ⟨_, _, ?_, (Ext.refl w).alloc (.cells #[v0] e), w.heap.size, rfl, own_alloc w base e #[v0] 1 rfl (hb w hC) (by omega)⟩
    simp [execOp, ho, h1, run_lit1 ht hinfo hz1 hv]

/-- append in a typed region -/
theorem obl_app {t e : TypeId} {z : Value} {bytes base n m N : Nat} {s x : Operand} {xs news ys : List Value} {cons : Option Nat} (hg : o.guard = none)
    (ho : o.op = .call { callee := .builtin .append, args := #[s, x], argTypes := #[t, t] })
    (ht : P.underlying t = some (.slice e)) (hinfo : Elem1 P e z bytes) (hz1 : z.cells.size = 1) (h1 : ∀ u ∈ news, u.oneCell' = true) (hN : n + m = N) (h63 : N ≤ maxLen) (hbytes : N * bytes ≤ 140737488355328)
    (hys : xs ++ news = ys) (hb : ∀ w, C w → base ≤ w.heap.size)
    (h : ∀ ρ w, Plain ρ → C w → opnds ops hs a0 o ρ w [s, x] → ∃ a c A cx, ρ s = .slice a n c ∧ Own w base e a n c xs ∧ ρ x = .slice A m cx ∧ Sl w A m cx news ∧
      ∀ w', w.grownBy w' (blk a) → C w' ∧ keeps ops hs i o w w' (List.range hs.length)) :
    obl P C ops hs a0 i o ⟨true, .pr (fun v wx => ∃ a1 c1, v = .slice a1 N c1 ∧ Own wx base e a1 N c1 ys), cons⟩ :=
  obl_mut hg fun ρ w hp hC hx => by
    rw [ho] at hx
    obtain ⟨a, c, A, cx, hs1, hown, hx1, hsl, hk⟩ := h ρ w hp hC hx
    subst hN
    subst hys
    obtain ⟨a', c', w', hrun, h2, h3, _⟩ := run_app (P := P) (ty := o.type) ht hinfo hz1 hown hsl h1 h63 hbytes (hb w hC)
    obtain ⟨k1, k2⟩ := hk w' h3
    refine ⟨_, w', ?_, k1, k2, a', c', rfl, h2⟩
    unfold execOp
    simp only [ho, resolve, invoke, builtin, Sem.run_bind, Sem.run_pure, Result.andThen_ok, List.map_toArray, List.map_cons, List.map_nil, hs1, hx1, hrun]
end

theorem ints_one (xs : List Int) : ∀ u ∈ xs.map (Value.int .i64), u.oneCell' = true := ints_oneCell .i64 xs

end Go.Proofs.Ytegmbdkdgpeahaa
