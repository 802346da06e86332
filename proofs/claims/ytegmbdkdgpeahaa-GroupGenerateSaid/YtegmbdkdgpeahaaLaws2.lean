/- Laws of loads and stores of whole arrays and structs, and of copy, in the words of the base text. Over any program. -/
import Derived.Test.YtegmbdkdgpeahaaLaws
import Derived.Laws.Rows
import Derived.Laws.Tables
import Derived.Laws.CopyRow
import Derived.Laws.IdiomCopy
namespace Go.Proofs.Ytegmbdkdgpeahaa
open Go Go.RowKit

/-- A struct or array type of n cells. -/
def Agg (P : Program) (ty : TypeId) (n : Nat) : Prop :=
  (P.underlying ty).map (fun d => match d with | .struct _ | .array _ _ => true | _ => false) = some true ∧ (P.info? ty).map (·.size) = some n

theorem Agg.parts {P : Program} {ty : TypeId} {n : Nat} (h : Agg P ty n) :
    ∃ d, P.underlying ty = some d ∧ (match d with | .struct _ | .array _ _ => true | _ => false) = true ∧ (P.info? ty).map (·.size) = some n := by
  obtain ⟨h1, h2⟩ := h
  cases hu : P.underlying ty with
  | none => rw [hu] at h1; cases h1
  | some d =>
    rw [hu] at h1
    exact ⟨d, rfl, by simpa using h1, h2⟩

theorem setRow_grown (w : World) (g : Nat) (cs : Array Value) : w.grownBy (w.setRow g cs) (some g) := by
  refine ⟨rfl, rfl, rfl, by simp [World.setRow], fun k _ hne => ?_⟩
  simp only [World.setRow, Array.getElem?_modify]
  rw [if_neg (by rintro rfl; exact hne rfl)]
theorem setRow_arr {w : World} {g : Nat} {t : TypeId} {cs : List Value} (h : Arr w g t cs) (vs : List Value) : Arr (w.setRow g vs.toArray) g t vs := by
  unfold Arr at h ⊢
  simp [World.setRow, Array.getElem?_modify, h]

section
variable {P : Program} {w : World}

theorem run_loadArr {ty : TypeId} {g : Nat} {t : TypeId} {cs : List Value} (ha : Agg P ty cs.length) (h : Arr w g t cs) :
    (Instr.loadAt ty (.pointer (some ⟨g, 0, none⟩))).run P w = .ok (.agg cs.toArray) w := by
  obtain ⟨d, hu, hd, hi⟩ := ha.parts
  have := run_loadVar_row (P := P) w g t ty cs.toArray (0, 0) d h hu (by cases d <;> first | rfl | exact absurd hd (by simp)) (by simpa using hi)
  simp [Instr.loadAt, Instr.sureAddr, this]

theorem run_storeArr {ty : TypeId} {g : Nat} {t : TypeId} {cs vs : List Value} (ha : Agg P ty vs.length) (h : Arr w g t cs) (hl : cs.length = vs.length) (h1 : ∀ v ∈ vs, v.oneCell' = true) :
    (Instr.storeAt ty (.pointer (some ⟨g, 0, none⟩)) (.agg vs.toArray)).run P w = .ok () (w.setRow g vs.toArray) := by
  obtain ⟨d, hu, hd, hi⟩ := ha.parts
  have := run_storeVar_row (P := P) w g t ty cs.toArray vs.toArray h (by simpa using hi) (by simpa using hl) (by simpa using h1)
  simp [Instr.storeAt, Instr.sureAddr, this]

/-- the load of a whole array or struct -/
theorem wl_ldArr {ops : Array Oper} {rest : List Oper} {o : Oper} {f : Act} {Q : Exit → Act → World → Prop} {ty : TypeId} {x : Operand} (hgd : o.guard = none) (ho : o.op = .load ty x)
    {g : Nat} {t : TypeId} {cs : List Value} (ha : Agg P ty cs.length) (hx : f.eval x = .pointer (some ⟨g, 0, none⟩)) (h : Arr w g t cs)
    (hK : wpList P ops Q rest (f.put o.dst (.agg cs.toArray)) w) : wpList P ops Q (o :: rest) f w := by
  refine wpList_plain hgd fun K hK' => ?_
  unfold Oper.wp execOp
  simp only [ho, hx, Sem.run_bind, run_loadArr ha h, Result.andThen_ok, Sem.run_pure, Oper.upon]
  exact hK' _ _ hK

/-- the store of a whole array or struct -/
theorem wl_stArr {ops : Array Oper} {rest : List Oper} {o : Oper} {f : Act} {Q : Exit → Act → World → Prop} {ty : TypeId} {x y : Operand} (hgd : o.guard = none) (ho : o.op = .store ty x y)
    {g : Nat} {t : TypeId} {cs vs : List Value} {va : Array Value} (hx : f.eval x = .pointer (some ⟨g, 0, none⟩)) (hy : f.eval y = .agg va) (hva : va = vs.toArray) (ha : Agg P ty vs.length) (h : Arr w g t cs)
    (hl : cs.length = vs.length) (h1 : ∀ v ∈ vs, v.oneCell' = true)
    (hK : ∀ w', Arr w' g t vs → w.grownBy w' (some g) → wpList P ops Q rest (f.put o.dst undef) w') : wpList P ops Q (o :: rest) f w := by
  subst hva
  refine wpList_plain hgd fun K hK' => ?_
  unfold Oper.wp execOp
  simp only [ho, hx, hy, Sem.run_bind, run_storeArr ha h hl h1, Result.andThen_ok, Sem.run_pure, Oper.upon]
  exact hK' _ _ (hK _ (setRow_arr h vs) (setRow_grown w g _))

/-- arr[:k] -/
theorem run_slice_arr {t e : TypeId} {z : Value} {bytes m k : Nat} {g : Nat} (ht : P.underlying t = some (.array m e)) (hinfo : Elem1 P e z bytes) (hk : k ≤ m) :
    (Instr.sliceAt t (.pointer (some ⟨g, 0, none⟩)) none (some (.int .i64 k)) none).run P w = .ok (.slice (some ⟨g, 0, none⟩) k m) w := by
  obtain ⟨i, hi, hz, hsize, hby⟩ := info_parts hinfo
  have e1 : (if m = 0 then (⟨g, 0, none⟩ : Addr) else (⟨g, 0, none⟩ : Addr).add 0) = ⟨g, 0, none⟩ := by
    split <;> rfl
  simp [Instr.sliceAt, Instr.sliceBounds, Instr.sliceBound, run_underlying ht, asIntOf, sizeOf, typeInfo, hi, hk, Instr.sureAddr, e1]

/-- a result that lies in an array or struct of the call's own -/
theorem res_arr {fn : Func} {p : Tmp} {ty : TypeId} (hr : fn.results = #[.cell p ty]) {tmps : Array Value} {g : Nat} {t : TypeId} {cs : List Value} (ha : Agg P ty cs.length)
    (hp : tmps.getD p undef = .pointer (some ⟨g, 0, none⟩)) (h : Arr w g t cs) : (results fn tmps).run P w = .ok (.agg cs.toArray) w := by
  obtain ⟨d, hu, hd, hi⟩ := ha.parts
  exact results_cell_row hr tmps w g t cs.toArray (0, 0) d hp h hu (by cases d <;> first | rfl | exact absurd hd (by simp)) (by simpa using hi)

/-- copy into an array of the call's own -/
theorem run_cp {dT sT ty e : TypeId} {z : Value} {bytes g o dl dc m c : Nat} {A : Option Addr} {t : TypeId} {cur cs : List Value} (ht : P.underlying dT = some (.slice e)) (hinfo : Elem1 P e z bytes)
    (h : Arr w g t cur) (hs : Sl w A m c cs) (hm : m ≤ dl) (hfit : o + m ≤ cur.length) (h1 : ∀ v ∈ cs, v.oneCell' = true) :
    ∃ w', (Builtin.copy_ #[dT, sT] ty #[.slice (some ⟨g, o, none⟩) dl dc, .slice A m c]).run P w = .ok (goInt m) w' ∧ Arr w' g t (cur.take o ++ cs ++ cur.drop (o + m)) ∧ w.grownBy w' (some g) := by
  obtain ⟨i, hi, hz, hsize, hby⟩ := info_parts hinfo
  have hsz : (P.info? e).map (·.size) = some 1 := by simp [hi, hsize]
  have hcl := hs.len
  by_cases h0 : m = 0
  · subst h0
    have : cs = [] := List.eq_nil_of_length_eq_zero hcl
    subst this
    refine ⟨w, run_copy_none w dT sT ty e _ _ dl dc 0 c ht hsz (by simp), ?_, ⟨rfl, rfl, rfl, Nat.le_refl _, fun _ _ _ => rfl⟩⟩
    simpa using h
  · obtain ⟨b, off, ha, hc⟩ := hs.rd (by omega)
    subst ha
    have hmin : m.min dl = m := Nat.min_eq_left hm
    have := run_copy_row (P := P) w dT sT ty e g o dl dc ⟨b, off, none⟩ m c cur.toArray t cs ht hsz h (by rw [hmin]; exact hcl) (by
      intro j v hv
      have hj : j < cs.length := by
        rcases Nat.lt_or_ge j cs.length with h | h
        · exact h
        · simp [List.getElem?_eq_none h] at hv
      have h2 := hc j (by omega)
      rw [List.getD_eq_getElem?_getD, hv] at h2
      rw [← Option.getD_some (a := v) (b := undef), ← h2.symm.symm]
      unfold Addr.add
      by_cases h3 : j = 0 <;> simp [h3] at h2 ⊢ <;> exact h2) (by simp; omega) h1
    refine ⟨_, ?_, setRow_arr h _, setRow_grown w g _⟩
    rw [this, hcl]

theorem wl_cp {ops : Array Oper} {rest : List Oper} {o : Oper} {f : Act} {Q : Exit → Act → World → Prop} {d s : Operand} {dT sT : TypeId} (hgd : o.guard = none)
    (ho : o.op = .call { callee := .builtin .copy, args := #[d, s], argTypes := #[dT, sT] })
    {e : TypeId} {z : Value} {bytes g p dl dc m c : Nat} {A : Option Addr} {t : TypeId} {cur cs : List Value} (ht : P.underlying dT = some (.slice e)) (hinfo : Elem1 P e z bytes)
    (hd : f.eval d = .slice (some ⟨g, p, none⟩) dl dc) (hsv : f.eval s = .slice A m c)
    (h : Arr w g t cur) (hs : Sl w A m c cs) (hm : m ≤ dl) (hfit : p + m ≤ cur.length) (h1 : ∀ v ∈ cs, v.oneCell' = true)
    (hK : ∀ w', Arr w' g t (cur.take p ++ cs ++ cur.drop (p + m)) → w.grownBy w' (some g) → wpList P ops Q rest (f.put o.dst (goInt m)) w') : wpList P ops Q (o :: rest) f w := by
  refine wpList_plain hgd fun K hK' => ?_
  obtain ⟨w', hrun, h2, h3⟩ := run_cp (P := P) (ty := o.type) (sT := sT) (dc := dc) ht hinfo h hs hm hfit h1
  unfold Oper.wp execOp
  simp only [ho, resolve, invoke, builtin, Sem.run_bind, Sem.run_pure, Result.andThen_ok, List.map_toArray, List.map_cons, List.map_nil, hd, hsv, hrun, Oper.upon]
  exact hK' _ _ (hK w' h2 h3)
end

end Go.Proofs.Ytegmbdkdgpeahaa
