/- An abstract evaluator, part K: values built of parts, slices made, cut. -/
import Derived.Test.YtajoogahcgbohaaGreatAeJ
set_option linter.unusedVariables false
set_option linter.unusedSimpArgs false
namespace Go.Proofs.YtajoogahcgbohaaGreatA
open Go.RowKit
theorem seg_fold (off : Nat) : ∀ (vs : List Value) (k : Nat) (A : Array Value), off + k + vs.length ≤ A.size →
    ((vs.zipIdx k).foldl (fun (cs : Array Value) (x : Value × Nat) => cs.setIfInBounds (off + x.2) x.1) A).toList = A.toList.take (off + k) ++ vs ++ A.toList.drop (off + k + vs.length) := by
  intro vs
  induction vs with
  | nil => intro k A h; simp
  | cons v vs ih =>
    intro k A h
    simp only [List.length_cons] at h
    simp only [List.zipIdx_cons, List.foldl_cons]
    rw [ih (k + 1) _ (by simp; omega)]
    simp only [Array.toList_setIfInBounds, List.length_cons]
    rw [List.drop_set_of_lt (by omega), show off + (k + 1) = off + k + 1 by omega, show off + k + 1 + vs.length = off + k + (vs.length + 1) by omega]
    have hl : off + k < (A.toList.set (off + k) v).length := by simp; omega
    rw [List.take_succ_eq_append_getElem hl, List.take_set_of_le (Nat.le_refl _)]
    simp
section
variable {P : Program} {B : Nat} {w0 : Base} {w : World} {ρ : Rho} {S S' : St}
inductive PR (ρ : Rho) (place : Nat → Option (Nat × Nat)) : List (Nat × Nat × AV) → List (Nat × Value) → Prop
  | nil : PR ρ place [] []
  | cons {off size i : Nat} {v : AV} {c : Value} {l : List (Nat × Nat × AV)} {r : List (Nat × Value)} (hp : place i = some (off, size)) (hv : VR ρ v c) (h : PR ρ place l r) : PR ρ place ((off, size, v) :: l) ((i, c) :: r)
theorem fill_sound (place : Nat → Option (Nat × Nat)) : ∀ {l : List (Nat × Nat × AV)} {r : List (Nat × Value)}, PR ρ place l r → ∀ {cells out : List AV} {cc : Array Value}, VRs ρ cells cc.toList → cells.all AV.atom = true →
    aFill cells l = some out → ∃ co, Instr.fill place cc r = some co ∧ VRs ρ out co.toList ∧ out.all AV.atom = true ∧ out.length = cells.length := by
  intro l r h
  induction h with
  | nil => intro cells out cc hv ha hf; cases hf; exact ⟨cc, rfl, hv, ha, rfl⟩
  | @cons off size i v c l r hp hv h ih =>
    intro cells out cc hc ha hf
    simp only [aFill] at hf
    split at hf
    · rename_i hcond
      obtain ⟨h1, h2, h3⟩ := hcond
      have hcl := hc.length
      have hvl := hv.cells.length
      simp only [Array.length_toList] at hcl hvl
      have hn : (decide (c.cells.size ≠ size) || decide (off + c.cells.size > cc.size)) = false := by simp; omega
      have hseg := seg_fold off c.cells.toList 0 cc (by simp; omega)
      have hfold : (c.cells.zipIdx.foldl (fun cs (x : Value × Nat) => cs.setIfInBounds (off + x.2) x.1) cc).toList = cc.toList.take off ++ c.cells.toList ++ cc.toList.drop (off + size) := by
        rw [← Array.foldl_toList]
        simp only [Array.toList_zipIdx]
        rw [hseg]
        simp only [Nat.add_zero, Array.length_toList]
        rw [show c.cells.size = size by omega]
      have hv' : VRs ρ (cells.take off ++ v.cells ++ cells.drop (off + size)) (c.cells.zipIdx.foldl (fun cs (x : Value × Nat) => cs.setIfInBounds (off + x.2) x.1) cc).toList := by
        rw [hfold]
        exact ((hc.take off).append hv.cells).append (hc.drop (off + size))
      have ha' : (cells.take off ++ v.cells ++ cells.drop (off + size)).all AV.atom = true := by
        have h4 := hv.cells_atoms h3
        simp only [List.all_append, Bool.and_eq_true]
        simp only [List.all_eq_true] at ha h4 ⊢
        exact ⟨⟨fun x hx => ha x (List.mem_of_mem_take hx), h4⟩, fun x hx => ha x (List.mem_of_mem_drop hx)⟩
      obtain ⟨co, g1, g2, g3, g4⟩ := ih hv' ha' hf
      refine ⟨co, ?_, g2, g3, ?_⟩
      · rw [Instr.fill]
        simp only [hp, hn, Bool.false_eq_true, if_false]
        exact g1
      · rw [g4]; simp; omega
    · cases hf
theorem parts_A {T : Tm} {a : Act} (hT : TR ρ T a.tmps) (n : Nat) : ∀ {l : List (Nat × Operand)} {ys : List (Nat × Nat × XO)}, cPartsA n l = some ys → ∀ {ps : List (Nat × Nat × AV)}, evParts T ys = some ps →
    PR ρ (fun i => some (i * n, n)) ps (l.map fun x => (x.1, a.eval x.2)) := by
  intro l
  induction l with
  | nil => intro ys h ps hp; cases h; cases hp; exact .nil
  | cons x l ih =>
    obtain ⟨i, x⟩ := x
    intro ys h ps hp
    simp only [cPartsA, Option.bind_eq_some_iff, Option.map_eq_some_iff] at h
    obtain ⟨y, hy, ys', hys, rfl⟩ := h
    simp only [evParts, Option.bind_eq_some_iff, Option.map_eq_some_iff] at hp
    obtain ⟨v, hv, ps', hps, rfl⟩ := hp
    exact .cons rfl (cX_sound hT hy hv) (ih hys hps)
theorem parts_S {T : Tm} {a : Act} (hT : TR ρ T a.tmps) (fs : Array Field) (g : Field → Nat × Nat) (hg : ∀ f n, szOf P f.type = some n → g f = (f.offset, n)) : ∀ {l : List (Nat × Operand)} {ys : List (Nat × Nat × XO)}, cPartsS P fs l = some ys → ∀ {ps : List (Nat × Nat × AV)}, evParts T ys = some ps →
    PR ρ ((fs.map g)[·]?) ps (l.map fun x => (x.1, a.eval x.2)) := by
  intro l
  induction l with
  | nil => intro ys h ps hp; cases h; cases hp; exact .nil
  | cons x l ih =>
    obtain ⟨i, x⟩ := x
    intro ys h ps hp
    simp only [cPartsS] at h
    split at h
    · cases h
    · rename_i f hf
      simp only [Option.bind_eq_some_iff, Option.map_eq_some_iff] at h
      obtain ⟨n, hn, y, hy, ys', hys, rfl⟩ := h
      simp only [evParts, Option.bind_eq_some_iff, Option.map_eq_some_iff] at hp
      obtain ⟨v, hv, ps', hps, rfl⟩ := hp
      exact .cons (by simp [hf, hg f n hn]) (cX_sound hT hy hv) (ih hys hps)
theorem run_mapM_list {α β : Type} (g : α → Sem β) (g' : α → β) : ∀ (l : List α), (∀ x ∈ l, ∀ w, (g x).run P w = .ok (g' x) w) → ∀ w, (l.mapM g).run P w = .ok (l.map g') w := by
  intro l
  induction l with
  | nil => intro _ w; simp
  | cons x l ih =>
    intro h w
    simp only [List.mapM_cons, Sem.run_bind, h x (by simp) w, Result.andThen_ok, ih (fun y hy => h y (by simp [hy])) w, Sem.run_pure, List.map_cons]
theorem run_mapM_arr {α β : Type} (g : α → Sem β) (g' : α → β) (A : Array α) (h : ∀ x ∈ A.toList, ∀ w, (g x).run P w = .ok (g' x) w) (w : World) : (A.mapM g).run P w = .ok (A.map g') w := by
  have e : A.mapM g = (fun l => l.toArray) <$> A.toList.mapM g := by rw [Array.mapM_eq_mapM_toList]
  rw [e, Sem.run_map, run_mapM_list g g' A.toList h w]
  simp only [Result.andThen_ok]
  congr 1
  apply Array.ext'
  simp
theorem map_parts (a : Act) (parts : Array (Nat × Operand)) : (parts.map fun (x : Nat × Operand) => match x with | (i, x) => (i, a.eval x)).toList = parts.toList.map fun x => (x.1, a.eval x.2) := by
  simp
theorem build_sound {T : Tm} {a : Act} (hT : TR ρ T a.tmps) (t : TypeId) (parts : Array (Nat × Operand)) {z : List AV} {ys : List (Nat × Nat × XO)} (hz : zeroOf P t = some z) (ha : z.all AV.atom = true)
    (hc : (∃ fs, P.underlying t = some (.struct fs) ∧ (fs.toList.all fun f => (szOf P f.type).isSome) = true ∧ cPartsS P fs parts.toList = some ys) ∨ (∃ m e n, P.underlying t = some (.array m e) ∧ szOf P e = some n ∧ cPartsA n parts.toList = some ys))
    {ps : List (Nat × Nat × AV)} (hps : evParts T ys = some ps) {cs : List AV} (hf : aFill z ps = some cs) (w : World) :
    ∃ co, (Instr.build t (parts.map fun (i, x) => (i, a.eval x))).run P w = .ok (.agg co) w ∧ VRs ρ cs co.toList ∧ cs.all AV.atom = true := by
  obtain ⟨i, zv, av, hi, hzv, hvr, rfl⟩ := zero_inv hz
  rcases hc with ⟨fs, hu, hall, hp⟩ | ⟨m, e, n, hu, hn, hp⟩
  · have hpr := parts_S (P := P) (ρ := ρ) hT fs (fun f => (f.offset, (szOf P f.type).getD 0)) (fun f n hn => by simp [hn]) hp hps
    obtain ⟨co, g1, g2, g3, _⟩ := fill_sound _ hpr (hvr ρ).cells ha hf
    refine ⟨co, ?_, g2, g3⟩
    have hm : ∀ w, (fs.mapM fun f => (do pure (f.offset, ← sizeOf f.type) : Sem (Nat × Nat))).run P w = .ok (fs.map fun f => (f.offset, (szOf P f.type).getD 0)) w := by
      intro w
      refine run_mapM_arr _ _ fs (fun f hf w => ?_) w
      have : (szOf P f.type).isSome = true := (List.all_eq_true.1 hall) f hf
      obtain ⟨n, hn⟩ := Option.isSome_iff_exists.1 this
      simp [run_size hn, hn]
    simp only [Instr.build, Sem.run_bind, run_zero hi hzv, Result.andThen_ok, run_und hu, hm, map_parts, g1, Sem.run_pure]
  · have hpr := parts_A (ρ := ρ) hT n hp hps
    obtain ⟨co, g1, g2, g3, _⟩ := fill_sound _ hpr (hvr ρ).cells ha hf
    refine ⟨co, ?_, g2, g3⟩
    simp only [Instr.build, Sem.run_bind, run_zero hi hzv, Result.andThen_ok, run_und hu, run_size hn, map_parts, g1, Sem.run_pure]
theorem rep_length (n : Nat) (z : List AV) : (rep n z).length = n * z.length := by
  induction n with
  | zero => simp [rep]
  | succ n ih => simp only [rep, List.replicate_succ, List.flatten_cons, List.length_append] at ih ⊢; rw [ih, Nat.succ_mul]; omega
theorem rep_atoms {n : Nat} {z : List AV} (h : z.all AV.atom = true) : (rep n z).all AV.atom = true := by
  induction n with
  | zero => rfl
  | succ n ih => simp only [rep, List.replicate_succ, List.flatten_cons, List.all_append, Bool.and_eq_true] at ih ⊢; exact ⟨h, ih⟩
theorem rep_get (n : Nat) (z : List AV) (hz : 0 < z.length) (i : Nat) (hi : i < n * z.length) : (rep n z)[i]? = z[i % z.length]? := by
  induction n generalizing i with
  | zero => omega
  | succ n ih =>
    simp only [rep, List.replicate_succ, List.flatten_cons]
    by_cases h : i < z.length
    · rw [List.getElem?_append_left h, Nat.mod_eq_of_lt h]
    · rw [List.getElem?_append_right (by omega)]
      have := ih (i - z.length) (by rw [Nat.succ_mul] at hi; omega)
      simp only [rep] at this
      rw [this, ← Nat.mod_eq_sub_mod (by omega)]
/-- A zero value's cells, over and over. -/
theorem zeros_VRs {z : List AV} {zc : Array Value} (hz : VRs ρ z zc.toList) (hpos : 0 < z.length) (n : Nat) : VRs ρ (rep n z) ((Array.range (n * z.length)).map fun i => zc[i % zc.size]!).toList := by
  have hl := hz.length
  simp only [Array.length_toList] at hl
  refine VRs.of_get (by simp [rep_length]) ?_
  intro i a v h1 h2
  have hi : i < n * z.length := by have := (List.getElem?_eq_some_iff.1 h1).1; rwa [rep_length] at this
  rw [rep_get n z hpos i hi] at h1
  obtain ⟨c, hc, hv⟩ := hz.get h1
  simp only [Array.getElem?_toList] at hc h2
  rw [Array.getElem?_map, Array.getElem?_range] at h2
  simp only [hi, if_true, Option.map_some, Option.some.injEq] at h2
  subst h2
  rw [hl]
  have hm : i % z.length < zc.size := by rw [hl]; exact Nat.mod_lt _ hpos
  rw [getElem!_pos zc _ hm]
  rw [Array.getElem?_eq_getElem hm] at hc
  cases hc
  exact hv
end
end Go.Proofs.YtajoogahcgbohaaGreatA
