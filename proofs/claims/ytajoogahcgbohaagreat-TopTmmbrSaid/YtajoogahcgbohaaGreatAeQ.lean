/- An abstract evaluator, part Q: every operation that calls nothing. -/
import Derived.Test.YtajoogahcgbohaaGreatAeP
set_option linter.unusedVariables false
set_option linter.unusedSimpArgs false
namespace Go.Proofs.YtajoogahcgbohaaGreatA
open Go.RowKit
section
variable {P : Program} {B : Nat} {w0 : Base} {w : World} {ρ : Rho} {S S' : St}
theorem op_alloc (h : Sim B w0 ρ S w) {t : TypeId} {z : List AV} (hz : zeroOf P t = some z) (ha : z.all AV.atom = true) :
    Out B w0 ρ (newVar S z).2 (newVar S z).1 ((do pure (Next.value (← Instr.alloc t true (.tuple #[]))) : Sem Next).run P w) := by
  obtain ⟨i, zv, av, hi, hzv, hvr, rfl⟩ := zero_inv hz
  obtain ⟨ρ', h1, h2, h3, h4⟩ := new_row (P := P) h t (hvr ρ).cells ha
  refine Out.of (c := .pointer (some ⟨w.heap.size, 0, none⟩)) h1 (.ptr h2 (Nat.zero_le _) (by simp) rfl) h3 ?_
  simp only [Instr.alloc, Sem.run_bind, run_zero hi hzv, Result.andThen_ok, Go.newVar, h4, Sem.run_pure]
theorem op_buildSlice {T : Tm} {a : Act} (hT : TR ρ T a.tmps) (h : Sim B w0 ρ S w) {t e : TypeId} {len n : Nat} {parts : Array (Nat × Operand)} {z : List AV} {ys : List (Nat × Nat × XO)} (ht : P.underlying t = some (.slice e)) (hn : szOf P e = some n) (hz : zeroOf P e = some z)
    (hl : z.length = n) (hpos : 0 < n) (hmax : len * n ≤ 16777216) (ha : z.all AV.atom = true) (hp : cPartsA n parts.toList = some ys) {ps : List (Nat × Nat × AV)} (hps : evParts T ys = some ps) {cs : List AV} (hf : aFill (rep len z) ps = some cs) :
    Out B w0 ρ (newSl S cs len n).2 (newSl S cs len n).1 ((do pure (Next.value (← Instr.buildSlice t len (parts.map fun (i, x) => (i, a.eval x)))) : Sem Next).run P w) := by
  obtain ⟨i, zv, av, hi, hzv, hvr, rfl⟩ := zero_inv hz
  have hzc := (hvr ρ).cells
  have hzl := hzc.length
  simp only [Array.length_toList] at hzl
  have hpr := parts_A (ρ := ρ) hT n hp hps
  have hmx : ¬ (len * n > 2 ^ 24) := by have : (2 : Nat) ^ 24 = 16777216 := by decide
                                        omega
  have hcells := zeros_VRs (ρ := ρ) hzc (by omega) len
  rw [hl] at hcells
  obtain ⟨co, g1, g2, g3, g4⟩ := fill_sound _ hpr hcells (rep_atoms ha) hf
  refine out_newSl h e len n (by rw [g4, rep_length, hl]) g2 g3 ?_
  have hrow : ((Array.range (len * n)).map fun i => (if len * n = 0 then #[] else zv.cells)[i % (if len * n = 0 then #[] else zv.cells).size]!) = (Array.range (len * n)).map fun i => zv.cells[i % zv.cells.size]! := by
    by_cases h0 : len * n = 0
    · rw [h0]; simp
    · simp only [if_neg h0]
  simp only [Instr.buildSlice, Sem.run_bind, run_und ht, Result.andThen_ok, run_size hn, if_neg hmx, map_parts, Sem.run_pure, newRow, run_newObj]
  by_cases h0 : len * n = 0
  · rw [if_pos h0] at hrow
    rw [if_pos h0]
    simp only [Sem.run_bind, Sem.run_pure, Result.andThen_ok, hrow, g1, run_newObj]
  · rw [if_neg h0]
    simp only [Sem.run_bind, Sem.run_pure, Result.andThen_ok, run_zero hi hzv, g1, run_newObj]
theorem op_makeSlice (h : Sim B w0 ρ S w) {t e : TypeId} {n by_ : Nat} {z : List AV} (ht : P.underlying t = some (.slice e)) (hn : szOf P e = some n) (hby : byOf P e = some by_) (hz : zeroOf P e = some z)
    (hl : z.length = n) (hpos : 0 < n) (ha : z.all AV.atom = true) {l c : Int} (hwl : (Lit.int .i64 l).wf = true) (hwc : (Lit.int .i64 c).wf = true) (h0 : 0 ≤ l) (h1 : l ≤ c) (h2 : c * by_ ≤ 281474976710656) :
    Out B w0 ρ (newSl S (rep l.toNat z) l.toNat n).2 (newSl S (rep l.toNat z) l.toNat n).1 ((do pure (Next.value (← Instr.makeSlice t (.int .i64 l) (.int .i64 c))) : Sem Next).run P w) := by
  obtain ⟨i, zv, av, hi, hzv, hvr, rfl⟩ := zero_inv hz
  have hzc := (hvr ρ).cells
  have hzl := hzc.length
  simp only [Array.length_toList] at hzl
  obtain ⟨i', hi', rfl⟩ := sz_inv hn
  rw [hi] at hi'; cases hi'
  have hby' : i.bytes = by_ := by simp only [byOf, hi, Option.map_some, Option.some.injEq] at hby; exact hby
  subst hby'
  rw [wf_bounds] at hwl hwc
  have m1 : IntKind.i64.min = -9223372036854775808 := by decide
  have m2 : IntKind.i64.max = 9223372036854775807 := by decide
  have wl : IntKind.i64.wrap l = l := by rw [IntKind.wrap_i64]; omega
  have wc : IntKind.i64.wrap c = c := by rw [IntKind.wrap_i64]; omega
  have hb : ¬ ((i.bytes : Int) * c > 2 ^ 48) := by
    have : (2 : Int) ^ 48 = 281474976710656 := by decide
    rw [Int.mul_comm] at h2
    omega
  have hc0 : ¬ c < 0 := by omega
  have hcells := zeros_VRs (ρ := ρ) hzc (by omega) c.toNat
  rw [hl] at hcells
  have hrow : ((Array.range (c.toNat * i.size)).map fun j => (if c.toNat * i.size = 0 then #[] else zv.cells)[j % (if c.toNat * i.size = 0 then #[] else zv.cells).size]!) = (Array.range (c.toNat * i.size)).map fun j => zv.cells[j % zv.cells.size]! := by
    by_cases h0 : c.toNat * i.size = 0
    · rw [h0]; simp
    · simp only [if_neg h0]
  have hlen : (rep l.toNat av.cells).length = l.toNat * i.size := by rw [rep_length, hl]
  have hcm : l.toNat * i.size ≤ c.toNat * i.size := Nat.mul_le_mul_right _ (by omega)
  refine out_newSlR (cs := (Array.range (c.toNat * i.size)).map fun j => zv.cells[j % zv.cells.size]!) h e (0, 0) l.toNat i.size c.toNat hlen (by omega) (by simp) ?_ (rep_atoms ha) (.inl rfl) (d := w.drawn) ?_
  · have := hcells.take (l.toNat * i.size)
    have e1 : (rep c.toNat av.cells).take (l.toNat * i.size) = rep l.toNat av.cells := by
      have hsplit : c.toNat = l.toNat + (c.toNat - l.toNat) := by omega
      have : rep c.toNat av.cells = rep l.toNat av.cells ++ rep (c.toNat - l.toNat) av.cells := by
        rw [hsplit]
        simp only [rep, List.replicate_append_replicate.symm, List.flatten_append]
        congr 3; omega
      rw [this, ← hlen, List.take_left]
    rw [e1] at this
    rw [hlen]
    exact this
  · have tl : (decide (c < 0) || decide ((i.bytes : Int) * c > 2 ^ 48)) = false := by simp only [Bool.or_eq_false_iff, decide_eq_false_iff_not]; exact ⟨hc0, hb⟩
    have cond : ((decide (c < 0) || decide ((i.bytes : Int) * c > 2 ^ 48)) || decide (l < 0) || decide (l > c)) = false := by
      rw [tl]; simp only [Bool.false_or, Bool.or_eq_false_iff, decide_eq_false_iff_not]; omega
    simp only [Instr.makeSlice, Sem.run_bind, run_und ht, Result.andThen_ok, asInt, asIntOf, Sem.run_pure, run_info hi, wl, wc]
    simp only [cond, Bool.false_eq_true, if_false, Sem.run_bind, run_askRoom, Result.andThen_ok, run_size hn, newRow, run_newObj, Sem.run_pure]
    by_cases h0 : c.toNat * i.size = 0
    · rw [if_pos h0] at hrow
      rw [if_pos h0]
      simp only [Sem.run_bind, Sem.run_pure, Result.andThen_ok, hrow, run_newObj]
    · rw [if_neg h0]
      simp only [Sem.run_bind, Sem.run_pure, Result.andThen_ok, run_zero hi hzv, run_newObj]
theorem max_run : ∀ {l : List AV} {cs : List Value}, VRs ρ l cs → ∀ {k : IntKind} {a : Int} {r : AV}, (Lit.int k a).wf = true → maxFrom k a l = some r → ∃ c, (cs.foldlM Builtin.max2 (.int k a)).run P w = .ok c w ∧ VR ρ r c := by
  intro l
  induction l with
  | nil => intro cs h k a r hw hm; cases h; cases hm; exact ⟨_, rfl, .int hw⟩
  | cons x l ih =>
    intro cs h k a r hw hm
    cases h with
    | cons hv ht =>
      cases hv <;> simp only [maxFrom] at hm <;> try cases hm
      rename_i k' b hw'
      split at hm
      · rename_i hk
        subst hk
        have hw2 : (Lit.int k (if a < b then b else a)).wf = true := by split <;> assumption
        obtain ⟨c, h1, h2⟩ := ih ht hw2 hm
        refine ⟨c, ?_, h2⟩
        simp only [List.foldlM_cons, Sem.run_bind, Builtin.max2, Sem.run_pure, Result.andThen_ok]
        exact h1
      · cases hm
theorem min_run : ∀ {l : List AV} {cs : List Value}, VRs ρ l cs → ∀ {k : IntKind} {a : Int} {r : AV}, (Lit.int k a).wf = true → minFrom k a l = some r → ∃ c, (cs.foldlM Builtin.min2 (.int k a)).run P w = .ok c w ∧ VR ρ r c := by
  intro l
  induction l with
  | nil => intro cs h k a r hw hm; cases h; cases hm; exact ⟨_, rfl, .int hw⟩
  | cons x l ih =>
    intro cs h k a r hw hm
    cases h with
    | cons hv ht =>
      cases hv <;> simp only [minFrom] at hm <;> try cases hm
      rename_i k' b hw'
      split at hm
      · rename_i hk
        subst hk
        have hw2 : (Lit.int k (if b < a then b else a)).wf = true := by split <;> assumption
        obtain ⟨c, h1, h2⟩ := ih ht hw2 hm
        refine ⟨c, ?_, h2⟩
        simp only [List.foldlM_cons, Sem.run_bind, Builtin.min2, Sem.run_pure, Result.andThen_ok]
        exact h1
      · cases hm
theorem maxI_run {l : List AV} {cs : List Value} (h : VRs ρ l cs) {r : AV} (hm : maxI l = some r) (ats : Array TypeId) (ty : TypeId) : ∃ c, (Builtin.max_ ats ty cs.toArray).run P w = .ok c w ∧ VR ρ r c := by
  cases h with
  | nil => cases hm
  | cons hv ht =>
    cases hv <;> simp only [maxI] at hm <;> try cases hm
    rename_i hw
    obtain ⟨c, h1, h2⟩ := max_run (P := P) (w := w) ht hw hm
    exact ⟨c, by simpa only [Builtin.max_] using h1, h2⟩
theorem minI_run {l : List AV} {cs : List Value} (h : VRs ρ l cs) {r : AV} (hm : minI l = some r) (ats : Array TypeId) (ty : TypeId) : ∃ c, (Builtin.min_ ats ty cs.toArray).run P w = .ok c w ∧ VR ρ r c := by
  cases h with
  | nil => cases hm
  | cons hv ht =>
    cases hv <;> simp only [minI] at hm <;> try cases hm
    rename_i hw
    obtain ⟨c, h1, h2⟩ := min_run (P := P) (w := w) ht hw hm
    exact ⟨c, by simpa only [Builtin.min_] using h1, h2⟩
/-- The cells that an append of a slice or a text appends. -/
theorem src_slice (h : Sim B w0 ρ S w) {u e : TypeId} {esz : Nat} {d : TypeDesc} (hu : P.underlying u = some d) (hd : ∀ k, d ≠ .int k) {x : Value} {n : Nat} {vs : List Value} (hl : vs.length = n * esz) (hlen : ∀ w', (Builtin.lenOf x).run P w' = .ok n w') (hfc : ∀ dr, (Builtin.firstCells esz n x).run P { w with drawn := dr } = .ok vs.toArray { w with drawn := dr }) :
    ∀ dr, Src P { w with drawn := dr } e esz u x n vs := fun dr => ⟨hl, d, hu, .inr ⟨hd, hlen, hfc dr⟩⟩
theorem cells_any (h : Sim B w0 ρ S w) {o v i len esz cap : Nat} {clip : Option Nat} {a : Addr} (hv : VR ρ (.slice (some (o, v, i)) len esz clip) (.slice (some a) len cap)) {m : Nat} (hm : m ≤ len) {l : List AV}
    (hr : S.rd o v i (m * esz) = some l) : ∃ vs : List Value, vs.length = m * esz ∧ VRs ρ l vs ∧ l.all AV.atom = true ∧ ∀ dr, (loadCells a (m * esz)).run P { w with drawn := dr } = .ok vs.toArray { w with drawn := dr } := by
  cases hv with
  | slice hL h0 h1 h2 h3 h4 ha =>
    rcases ha with rfl | rfl
    · have : m = 0 := by omega
      subst this
      have hl := rd_length hr
      simp only [Nat.zero_mul] at hl
      have : l = [] := List.length_eq_zero_iff.1 hl
      subst this
      exact ⟨[], by simp, .nil, rfl, fun dr => by simp [loadCells, loadCellsFrom]⟩
    · have : m * esz ≤ len * esz := Nat.mul_le_mul_right _ hm
      obtain ⟨vs, k1, k2, k3, cs, e, fz, k4, k5, k6⟩ := rd_lies h hr hL h0 (by omega)
      refine ⟨vs, k1, k2, k3, fun dr => ?_⟩
      have := run_loadCells_list (P := P) { w with drawn := dr } ⟨_, Loc.at _ i, none⟩ vs (fun j x hx => by
        have hj : j < m * esz := by have := (List.getElem?_eq_some_iff.1 hx).1; omega
        rw [add_at, cell_at (w := { w with drawn := dr }) k4, k6 j hj, hx])
      rwa [k1] at this
end
end Go.Proofs.YtajoogahcgbohaaGreatA
