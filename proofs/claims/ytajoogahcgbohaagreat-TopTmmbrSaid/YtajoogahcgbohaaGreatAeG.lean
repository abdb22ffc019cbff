/- An abstract evaluator, part G: an operation that calls nothing does what the evaluator says. -/
import Derived.Test.YtajoogahcgbohaaGreatAeF
import Derived.ChangeKeysEq
set_option linter.unusedVariables false
set_option linter.unusedSimpArgs false
namespace Go.Proofs.YtajoogahcgbohaaGreatA
open Go.RowKit

/-- What a run of an operation comes to: the value told (or none, where nothing is told), the state told. -/
def Out (B : Nat) (w0 : Base) (ρ : Rho) (S' : St) (v : AV) (r : Result Next) : Prop :=
  ∃ ρ' c w', ρ.le ρ' ∧ VR ρ' v c ∧ Sim B w0 ρ' S' w' ∧ (r = .ok (.value c) w' ∨ (r = .ok .skip w' ∧ c = undef))
section
variable {P : Program} {B : Nat} {w0 : Base} {w : World} {ρ : Rho} {S S' : St}
theorem Out.of {ρ' : Rho} {v : AV} {c : Value} {w' : World} {s : Sem Value} (hle : ρ.le ρ') (hv : VR ρ' v c) (hS : Sim B w0 ρ' S' w') (hr : s.run P w = .ok c w') :
    Out B w0 ρ S' v ((do pure (Next.value (← s)) : Sem Next).run P w) :=
  ⟨ρ', c, w', hle, hv, hS, .inl (by simp [hr])⟩
theorem Out.val {v : AV} {c : Value} {s : Sem Value} (h : Sim B w0 ρ S w) (hv : VR ρ v c) (hr : s.run P w = .ok c w) :
    Out B w0 ρ S v ((do pure (Next.value (← s)) : Sem Next).run P w) := .of (Rho.le_refl ρ) hv h hr
theorem VR.cells_atoms {v : AV} {c : Value} (h : VR ρ v c) (ht : v.tup = false) : v.cells.all AV.atom = true := by
  cases h <;> first | assumption | rfl | (simp [AV.tup] at ht)
theorem zero_inv {t : TypeId} {z : List AV} (h : zeroOf P t = some z) : ∃ i zv av, P.info? t = some i ∧ i.zero = some zv ∧ (∀ ρ, VR ρ av zv) ∧ av.cells = z := by
  simp only [zeroOf, Option.bind_eq_some_iff, Option.map_eq_some_iff] at h
  obtain ⟨zv, ⟨i, hi, hz⟩, av, hav, rfl⟩ := h
  exact ⟨i, zv, av, hi, hz, fun ρ => ofV_sound _ _ _ hav, rfl⟩
theorem run_zero {t : TypeId} {i : TypeInfo} {zv : Value} (h : P.info? t = some i) (hz : i.zero = some zv) (w : World) : (zeroValue t).run P w = .ok zv w := by
  simp [zeroValue, typeInfo, h, hz]
theorem sz_inv {t : TypeId} {n : Nat} (h : szOf P t = some n) : ∃ i, P.info? t = some i ∧ i.size = n := by
  simp only [szOf, Option.map_eq_some_iff] at h; exact h
theorem run_size {t : TypeId} {n : Nat} (h : szOf P t = some n) (w : World) : (sizeOf t).run P w = .ok n w := by
  obtain ⟨i, hi, rfl⟩ := sz_inv h
  simp [sizeOf, typeInfo, hi]
theorem run_info {t : TypeId} {i : TypeInfo} (h : P.info? t = some i) (w : World) : (typeInfo t).run P w = .ok i w := by simp [typeInfo, h]
theorem run_und {t : TypeId} {d : TypeDesc} (h : P.underlying t = some d) (w : World) : (underlying t).run P w = .ok d w := run_underlying h w
theorem run_agg {t : TypeId} {g : Bool} (h : isAggT P t = some g) (w : World) : (isAgg t).run P w = .ok g w := by
  simp only [isAggT, Option.map_eq_some_iff] at h
  obtain ⟨d, hd, rfl⟩ := h
  simp only [isAgg, Sem.run_bind, run_und hd, Result.andThen_ok]
  cases d <;> rfl

/-- A new block of cells, and its place. -/
theorem new_row (h : Sim B w0 ρ S w) {xs : List AV} {cs : Array Value} (e : TypeId) (hv : VRs ρ xs cs.toList) (ha : xs.all AV.atom = true) :
    ∃ ρ', ρ.le ρ' ∧ ρ' S.next 0 = some ⟨w.heap.size, 0, 0, xs.length, xs.length⟩ ∧ Sim B w0 ρ' (S.alloc (.cells xs 0 0 true)) { w with heap := w.heap.push (.cells cs e) } ∧
      (newRow e cs).run P w = .ok ⟨w.heap.size, 0, none⟩ { w with heap := w.heap.push (.cells cs e) } := by
  have hl := hv.length
  obtain ⟨ρ', h1, h2, h3⟩ := h.alloc (e := e) (fz := (0, 0)) (cs := cs) xs.length (Nat.le_refl _) (by simp at hl; omega)
    (fun i a hi => by obtain ⟨v, hv1, hv2⟩ := hv.get hi; exact ⟨v, by simpa using hv1, hv2⟩) ha (.inl rfl)
  exact ⟨ρ', h1, h2, h3, by simp [newRow]⟩
theorem out_newVar (h : Sim B w0 ρ S w) {v : AV} {c : Value} (e : TypeId) (hv : VR ρ v c) (ht : v.tup = false) :
    Out B w0 ρ (newVar S v.cells).2 (newVar S v.cells).1 ((do pure (Next.value (← (do pure (.pointer (some (← Go.newVar e c)))))) : Sem Next).run P w) := by
  obtain ⟨ρ', h1, h2, h3, h4⟩ := new_row (P := P) h e hv.cells (hv.cells_atoms ht)
  refine Out.of (c := .pointer (some ⟨w.heap.size, 0, none⟩)) h1 (.ptr h2 (Nat.zero_le _) (by simp) rfl) h3 ?_
  simp [Go.newVar, h4]
theorem out_newSl (h : Sim B w0 ρ S w) {xs : List AV} {cs : Array Value} (e : TypeId) (len esz : Nat) (hl : xs.length = len * esz) (hv : VRs ρ xs cs.toList) (ha : xs.all AV.atom = true) {s : Sem Value}
    (hs : s.run P w = .ok (.slice (some ⟨w.heap.size, 0, none⟩) len len) { w with heap := w.heap.push (.cells cs e) }) :
    Out B w0 ρ (newSl S xs len esz).2 (newSl S xs len esz).1 ((do pure (Next.value (← s)) : Sem Next).run P w) := by
  obtain ⟨ρ', h1, h2, h3, h4⟩ := new_row (P := P) h e hv ha
  exact Out.of h1 (.slice h2 (Nat.zero_le _) (by simp; omega) (by simp; omega) (Nat.le_refl _) (by simp) (.inr rfl)) h3 hs
/-- The same with room behind. -/
theorem out_newSlR (h : Sim B w0 ρ S w) {xs : List AV} {cs : Array Value} (e : TypeId) (fz : Nat × Nat) (len esz cap : Nat) (hl : xs.length = len * esz) (hc : len ≤ cap) (hsz : cs.size = cap * esz)
    (hv : VRs ρ xs (cs.toList.take xs.length)) (ha : xs.all AV.atom = true) (hf : Fz fz cs.size) {d : Nat} {s : Sem Value}
    (hs : s.run P w = .ok (.slice (some ⟨w.heap.size, 0, none⟩) len cap) { w with heap := w.heap.push (.cells cs e fz), drawn := d }) :
    Out B w0 ρ (newSl S xs len esz).2 (newSl S xs len esz).1 ((do pure (Next.value (← s)) : Sem Next).run P w) := by
  have hle : len * esz ≤ cap * esz := Nat.mul_le_mul_right _ hc
  obtain ⟨ρ', h1, h2, h3⟩ := h.alloc (e := e) (fz := fz) (cs := cs) (cap * esz) (by omega) (by omega)
    (fun i a hi => by
      obtain ⟨v, hv1, hv2⟩ := hv.get hi
      have hlt := (List.getElem?_eq_some_iff.1 hi).1
      rw [List.getElem?_take_of_lt hlt] at hv1
      exact ⟨v, by simpa using hv1, hv2⟩) ha hf
  exact Out.of h1 (.slice h2 (Nat.zero_le _) (by simp; omega) (by simp) hc (by simp) (.inr rfl)) (h3.drawn d) hs

/-! ### Comparing -/
theorem isAgg_scal {t : TypeId} {e : ET} (h : scalT P t = some e) (w : World) : (isAgg t).run P w = .ok false w := by
  unfold scalT at h
  split at h <;> first | (cases h; rename_i hu; simp [isAgg, run_und hu]) | cases h
theorem eq_scal {d : Nat} {t : TypeId} {e : ET} (he : scalT P t = some e) {x y : AV} {cx cy : Value} (hx : VR ρ x cx) (hy : VR ρ y cy) {b : Bool} (h : eqScal e x y = some b) (w : World) :
    (Op.equalIn (d + 1) t cx cy).run P w = .ok b w := by
  unfold scalT at he
  split at he
  · rename_i hu; cases he
    cases hx <;> simp only [eqScal] at h <;> try cases h
    cases hy <;> simp only [eqScal] at h <;> try cases h
    exact run_equalIn_bool' w d t _ _ hu
  · rename_i hu; cases he
    cases hx <;> simp only [eqScal] at h <;> try cases h
    cases hy <;> simp only [eqScal] at h <;> try cases h
    split at h
    · rename_i hk; cases h; subst hk; exact run_equalIn_int w d t _ _ _ _ hu
    · cases h
  · rename_i hu; cases he
    cases hx <;> simp only [eqScal] at h <;> try cases h
    rename_i l s hs
    cases hy <;> simp only [eqScal] at h <;> try cases h
    rename_i l' s' hs'
    subst hs hs'
    rw [run_equalIn_string w d t _ _ hu, str_eq]
  · cases he
theorem eq_fields {d : Nat} {xs ys : Array Value} {as bs : List AV} (hx : VRs ρ as xs.toList) (hy : VRs ρ bs ys.toList) (w : World) :
    ∀ (fs : List Field) (es : List (Nat × ET)), etFs P fs = some es → ∀ {b : Bool}, eqFields as bs es = some b → (Op.eqFields (d + 1) xs ys fs).run P w = .ok b w := by
  intro fs
  induction fs with
  | nil => intro es h b hb; cases h; cases hb; rfl
  | cons f fs ih =>
    intro es h b hb
    simp only [etFs] at h
    split at h
    · rename_i hc
      obtain ⟨hn, hs⟩ := hc
      simp only [Option.bind_eq_some_iff, Option.map_eq_some_iff] at h
      obtain ⟨e, he, es', hes, rfl⟩ := h
      simp only [eqFields] at hb
      split at hb
      · rename_i x y h1 h2
        obtain ⟨cx, hcx, hvx⟩ := hx.get h1
        obtain ⟨cy, hcy, hvy⟩ := hy.get h2
        simp only [Array.getElem?_toList] at hcx hcy
        simp only [Option.bind_eq_some_iff] at hb
        obtain ⟨b1, hb1, hb2⟩ := hb
        have p1 : (part f.type xs f.offset).run P w = .ok cx w := by simp [part, isAgg_scal he, hcx]
        have p2 : (part f.type ys f.offset).run P w = .ok cy w := by simp [part, isAgg_scal he, hcy]
        have hn' : f.name ≠ "_" := by simpa using hn
        simp only [Op.eqFields, if_pos hn', Sem.run_bind, p1, p2, Result.andThen_ok, eq_scal he hvx hvy hb1]
        cases b1
        · simp only [cond_false] at hb2; cases hb2; rfl
        · simp only [cond_true] at hb2
          simpa using ih es' hes hb2
      · cases hb
    · cases h
theorem eq_items {d : Nat} {xs ys : Array Value} {as bs : List AV} {e : TypeId} {k : ET} (he : scalT P e = some k) (hx : VRs ρ as xs.toList) (hy : VRs ρ bs ys.toList) (w : World) :
    ∀ (is : List Nat) {b : Bool}, eqFields as bs (is.map fun i => (i, k)) = some b → (Op.eqItems (d + 1) e 1 xs ys is).run P w = .ok b w := by
  intro is
  induction is with
  | nil => intro b hb; cases hb; rfl
  | cons i is ih =>
    intro b hb
    simp only [List.map_cons, eqFields] at hb
    split at hb
    · rename_i x y h1 h2
      obtain ⟨cx, hcx, hvx⟩ := hx.get h1
      obtain ⟨cy, hcy, hvy⟩ := hy.get h2
      simp only [Array.getElem?_toList] at hcx hcy
      simp only [Option.bind_eq_some_iff] at hb
      obtain ⟨b1, hb1, hb2⟩ := hb
      have p1 : (part e xs (i * 1)).run P w = .ok cx w := by simp [part, isAgg_scal he, hcx]
      have p2 : (part e ys (i * 1)).run P w = .ok cy w := by simp [part, isAgg_scal he, hcy]
      simp only [Op.eqItems, Sem.run_bind, p1, p2, Result.andThen_ok, eq_scal he hvx hvy hb1]
      cases b1
      · simp only [cond_false] at hb2; cases hb2; rfl
      · simp only [cond_true] at hb2
        simpa using ih hb2
    · cases hb
section
variable {t : TypeId} (d : Nat) (w : World)
theorem eq_p1 {e : TypeId} (hu : P.underlying t = some (.pointer e)) (b : Option Addr) : (Op.equalIn (d + 1) t (.pointer none) (.pointer b)).run P w = .ok b.isNone w := by
  rw [Op.equalIn, Sem.run_bind, run_und hu]; rfl
theorem eq_p2 {e : TypeId} (hu : P.underlying t = some (.pointer e)) (a : Addr) : (Op.equalIn (d + 1) t (.pointer (some a)) (.pointer none)).run P w = .ok false w := by
  rw [Op.equalIn, Sem.run_bind, run_und hu]; rfl
theorem eq_s1 {e : TypeId} (hu : P.underlying t = some (.slice e)) (b : Option Addr) (n c n' c' : Nat) : (Op.equalIn (d + 1) t (.slice none n c) (.slice b n' c')).run P w = .ok b.isNone w := by
  rw [Op.equalIn, Sem.run_bind, run_und hu]; rfl
theorem eq_s2 {e : TypeId} (hu : P.underlying t = some (.slice e)) (a : Addr) (n c n' c' : Nat) : (Op.equalIn (d + 1) t (.slice (some a) n c) (.slice none n' c')).run P w = .ok false w := by
  rw [Op.equalIn, Sem.run_bind, run_und hu]; rfl
theorem eq_f1 {p r : Array TypeId} {v : Bool} (hu : P.underlying t = some (.func p r v)) : (Op.equalIn (d + 1) t .nilFunc .nilFunc).run P w = .ok true w := by
  rw [Op.equalIn, Sem.run_bind, run_und hu]; rfl
theorem eq_f2 {p r : Array TypeId} {v : Bool} (hu : P.underlying t = some (.func p r v)) (f : Fn) (x y : Array Value) : (Op.equalIn (d + 1) t .nilFunc (.func f x y)).run P w = .ok false w := by
  rw [Op.equalIn, Sem.run_bind, run_und hu]; rfl
theorem eq_f3 {p r : Array TypeId} {v : Bool} (hu : P.underlying t = some (.func p r v)) (f : Fn) (x y : Array Value) : (Op.equalIn (d + 1) t (.func f x y) .nilFunc).run P w = .ok false w := by
  rw [Op.equalIn, Sem.run_bind, run_und hu]; rfl
theorem eq_i1 {m : Array (String × TypeId)} (hu : P.underlying t = some (.interface m)) : (Op.equalIn (d + 1) t .nilIface .nilIface).run P w = .ok true w := by
  rw [Op.equalIn, Sem.run_bind, run_und hu]; rfl
theorem eq_i2 {m : Array (String × TypeId)} (hu : P.underlying t = some (.interface m)) (u : TypeId) (v : Value) : (Op.equalIn (d + 1) t .nilIface (.iface u v)).run P w = .ok false w := by
  rw [Op.equalIn, Sem.run_bind, run_und hu]; rfl
theorem eq_i3 {m : Array (String × TypeId)} (hu : P.underlying t = some (.interface m)) (u : TypeId) (v : Value) : (Op.equalIn (d + 1) t (.iface u v) .nilIface).run P w = .ok false w := by
  rw [Op.equalIn, Sem.run_bind, run_und hu]; rfl
end
theorem eq_sound {t : TypeId} {et : ET} (he : etOf P t = some et) {x y : AV} {cx cy : Value} (hx : VR ρ x cx) (hy : VR ρ y cy) {lit b : Bool} (h : aEq et lit x y = some b) (w : World) :
    (Op.equal t cx cy).run P w = .ok b w := by
  unfold Op.equal
  obtain ⟨dd, hdd⟩ : ∃ dd, Op.maxDepth = dd + 1 + 1 := ⟨9998, rfl⟩
  rw [hdd]
  clear hdd
  unfold etOf at he
  split at he
  · rename_i hu; cases he
    simp only [aEq] at h
    cases hx <;> try cases h
    · cases hy <;> try cases h
      · exact eq_p1 _ _ hu _
      · exact eq_p1 _ _ hu _
    · cases hy <;> try cases h
      exact eq_p2 _ _ hu _
  · rename_i hu; cases he
    simp only [aEq] at h
    cases hx <;> try cases h
    · cases hy <;> try cases h
      · exact eq_s1 _ _ hu _ _ _ _ _
      · exact eq_s1 _ _ hu _ _ _ _ _
    · cases hy <;> try cases h
      exact eq_s2 _ _ hu _ _ _ _ _
  · rename_i hu; cases he
    simp only [aEq] at h
    cases hx <;> try cases h
    · cases hy <;> try cases h
      exact eq_f3 _ _ hu _ _ _
    · cases hy <;> try cases h
      · exact eq_f2 _ _ hu _ _ _
      · exact eq_f1 _ _ hu
  · rename_i hu; cases he
    simp only [aEq] at h
    cases hx <;> try cases h
    · cases hy <;> try cases h
      exact eq_i3 _ _ hu _ _
    · cases hy <;> try cases h
      · exact eq_i2 _ _ hu _ _
      · replace h : (if lit = true then some true else none) = some b := h
        cases lit
        · simp at h
        · simp at h; subst h; exact eq_i1 _ _ hu
  · rename_i fs hu
    split at he
    · rename_i hc
      simp only [Option.map_eq_some_iff] at he
      obtain ⟨es, hes, rfl⟩ := he
      simp only [aEq] at h
      cases hx <;> try cases h
      cases hy <;> try cases h
      rename_i hx' _ _ _ hy' _
      have hf : P.fieldsOf t = fs := by simp [Program.fieldsOf, hu]
      rw [run_equalIn_struct w (dd + 1) t _ _ (by rw [hf]; exact hu) hc.1, hf]
      exact eq_fields hx' hy' w fs.toList es hes h
    · cases he
  · rename_i n e hu
    split at he
    · rename_i hc
      simp only [Option.map_eq_some_iff] at he
      obtain ⟨k, hk, rfl⟩ := he
      simp only [aEq] at h
      cases hx <;> try cases h
      cases hy <;> try cases h
      rename_i hx' _ _ _ hy' _
      obtain ⟨i, hi, hsz⟩ := sz_inv hc.1
      rw [run_equalIn_array w (dd + 1) _ _ hu hi]
      have hcell : P.cellsOf e = 1 := by simp [Program.cellsOf, hi, hsz]
      rw [hcell]
      exact eq_items hk hx' hy' w (List.range n) h
    · cases he
  · have h' : eqScal et x y = some b := by
      unfold scalT at he
      split at he <;> first | (cases he; exact h) | cases he
    exact eq_scal he hx hy h' w
end
end Go.Proofs.YtajoogahcgbohaaGreatA
