/- An abstract evaluator, part R: an operation that calls nothing, whichever. -/
import Derived.Test.YtkbooepiomobdaaAeQ
set_option linter.unusedVariables false
set_option linter.unusedSimpArgs false
namespace Go.Proofs.YtkbooepiomobdaaA
open Go.RowKit
section
variable {P : Program} {B : Nat} {w0 : Base} {w : World} {ρ : Rho} {S S' : St}
theorem evo_sound {T : Tm} {a : Act} (hT : TR ρ T a.tmps) {x : Option Operand} {y : Option XO} (hc : cXo x = some y) {v : Option AV} (he : evOpt T y = some v) : VRo ρ v (x.map a.eval) := by
  cases x with
  | none => cases hc; cases he; exact trivial
  | some x =>
    simp only [cXo, Option.map_eq_some_iff] at hc
    obtain ⟨y, hy, rfl⟩ := hc
    simp only [evOpt, Option.map_eq_some_iff] at he
    obtain ⟨v, hv, rfl⟩ := he
    exact cX_sound hT hy hv
theorem und_iface {t : TypeId} (h : (match P.underlying t with | some (.interface _) | none => none | _ => some ()) = some ()) : ∃ d, P.underlying t = some d ∧ ∀ m, d ≠ .interface m := by
  cases hu : P.underlying t with
  | none => rw [hu] at h; cases h
  | some d => exact ⟨d, rfl, fun m hm => by rw [hu, hm] at h; cases h⟩
theorem zeroV_inv {t : TypeId} {z : AV} (h : zeroV P t = some z) : ∃ zv, (∀ w, (zeroValue t).run P w = .ok zv w) ∧ ∀ ρ, VR ρ z zv := by
  simp only [zeroV, Option.bind_eq_some_iff] at h
  obtain ⟨zv, ⟨i, hi, hz⟩, hav⟩ := h
  exact ⟨zv, fun w => run_zero hi hz w, fun ρ => ofV_sound _ _ _ hav⟩
theorem assert_sound {t xt : TypeId} {z x r : AV} {ok : Bool} {d : TypeDesc} (hd : P.underlying t = some d) (hni : ∀ m, d ≠ .interface m) (hz : zeroV P t = some z) {cx : Value} (hx : VR ρ x cx)
    (h : aAssert t z ok x = some r) (w : World) : ∃ c, (Instr.typeAssert cx xt t ok).run P w = .ok c w ∧ VR ρ r c := by
  unfold aAssert at h
  obtain ⟨zv, hzr, hzv⟩ := zeroV_inv hz
  cases hx with
  | @iface u v c hv =>
    dsimp only at h
    by_cases hut : u = t
    · rw [if_pos hut] at h
      cases ok
      · cases h
        refine ⟨c, ?_, hv⟩
        simp only [Instr.typeAssert, Sem.run_bind, run_und hd, Result.andThen_ok]
        cases d <;> first | exact absurd rfl (hni _) | simp [hut]
      · cases h
        refine ⟨.tuple #[c, .bool true], ?_, .tuple (.cons hv (.cons .bool .nil))⟩
        simp only [Instr.typeAssert, Sem.run_bind, run_und hd, Result.andThen_ok]
        cases d <;> first | exact absurd rfl (hni _) | simp [hut]
    · rw [if_neg hut] at h
      cases ok
      · cases h
      · cases h
        refine ⟨.tuple #[zv, .bool false], ?_, .tuple (.cons (hzv ρ) (.cons .bool .nil))⟩
        simp only [Instr.typeAssert, Sem.run_bind, run_und hd, Result.andThen_ok]
        cases d <;> first | exact absurd rfl (hni _) | simp [hut, hzr]
  | nilIface =>
    dsimp only at h
    cases ok
    · cases h
    · cases h
      refine ⟨.tuple #[zv, .bool false], ?_, .tuple (.cons (hzv ρ) (.cons .bool .nil))⟩
      simp only [Instr.typeAssert, Sem.run_bind, run_und hd, Result.andThen_ok]
      cases d <;> first | exact absurd rfl (hni _) | simp [hzr]
  | _ => cases h
theorem assertI_sound {t xt : TypeId} {x r : AV} {ok : Bool} {want : Array (String × TypeId)} {yes no : List Nat} (hd : P.underlying t = some (.interface want)) (hz : zeroV P t = some .nilIface)
    (hy : ∀ u ∈ yes, ∃ i, P.info? u = some i ∧ Instr.missingMethod want i.methods = none) (hn : ∀ u ∈ no, ∃ i m, P.info? u = some i ∧ Instr.missingMethod want i.methods = some m) {cx : Value} (hx : VR ρ x cx)
    (h : aAssertI yes no ok x = some r) (w : World) : ∃ c, (Instr.typeAssert cx xt t ok).run P w = .ok c w ∧ VR ρ r c := by
  unfold aAssertI at h
  obtain ⟨zv, hzr, hzv⟩ := zeroV_inv hz
  cases hx with
  | @iface u v c hv =>
    dsimp only at h
    by_cases hut : u ∈ yes
    · rw [if_pos hut] at h
      obtain ⟨i, hi, hm⟩ := hy u hut
      cases ok
      · cases h
        refine ⟨.iface u c, ?_, .iface hv⟩
        simp only [Instr.typeAssert, Sem.run_bind, run_und hd, Result.andThen_ok, run_info hi, hm]
        rfl
      · cases h
        refine ⟨.tuple #[.iface u c, .bool true], ?_, .tuple (.cons (.iface hv) (.cons .bool .nil))⟩
        simp only [Instr.typeAssert, Sem.run_bind, run_und hd, Result.andThen_ok, run_info hi, hm]
        rfl
    · rw [if_neg hut] at h
      split at h
      · rename_i hc
        obtain ⟨hno, rfl⟩ := hc
        obtain ⟨i, m, hi, hm⟩ := hn u hno
        cases h
        refine ⟨.tuple #[zv, .bool false], ?_, .tuple (.cons (hzv ρ) (.cons .bool .nil))⟩
        simp only [Instr.typeAssert, Sem.run_bind, run_und hd, Result.andThen_ok, run_info hi, hm]
        simp [hzr]
      · cases h
  | nilIface =>
    dsimp only at h
    cases ok
    · cases h
    · cases h
      refine ⟨.tuple #[zv, .bool false], ?_, .tuple (.cons (hzv ρ) (.cons .bool .nil))⟩
      simp only [Instr.typeAssert, Sem.run_bind, run_und hd, Result.andThen_ok]
      simp [hzr]
  | _ => cases h
theorem copy_sound (h : Sim B w0 ρ S w) {t u e : TypeId} {esz : Nat} {ty : TypeId} (ht : P.underlying t = some (.slice e)) (hs : szOf P e = some esz) {d s r : AV} {cd cs : Value} (hd : VR ρ d cd) (hss : VR ρ s cs)
    (he : aCopy esz S d s = some (r, S')) :
    Out B w0 ρ S' r ((do pure (Next.value (← Builtin.copy_ #[t, u] ty #[cd, cs])) : Sem Next).run P w) := by
  have run0 : ∀ {base : Option Addr} {dl dc : Nat} {sn : Nat}, cd = .slice base dl dc → (Builtin.lenOf cs).run P w = .ok sn w → Nat.min sn dl = 0 → (Builtin.firstCells esz 0 cs).run P w = .ok #[] w → (Builtin.copy_ #[t, u] ty #[cd, cs]).run P w = .ok (.int .i64 0) w := by
    intro base dl dc sn hcd hl hm hf
    subst hcd
    simp only [Builtin.copy_, List.getElem?_toArray, List.getElem?_cons_zero, List.getElem?_cons_succ, Sem.run_bind, run_und ht, Result.andThen_ok, hl, hm, run_size hs, hf]
    cases base <;> simp [storeCells, goInt]
  unfold aCopy at he
  cases hd with
  | @sliceNil esz' clip =>
    dsimp only at he
    cases hss with
    | sliceNil => cases he; exact Out.val h (.int (by decide)) (run0 rfl (sn := 0) rfl (by simp) (by simp [Builtin.firstCells]))
    | @slice o v i len e' cap clip L a hL h0 h1 h2 h3 h4 ha => cases he; exact Out.val h (.int (by decide)) (run0 rfl (sn := len) rfl (by simp) (by simp [Builtin.firstCells, loadCells, loadCellsFrom]))
    | _ => cases he
  | @slice o v i dl e' cap clip L a hL h0 h1 h2 h3 h4 ha =>
    dsimp only at he
    cases hss with
    | sliceNil => cases he; exact Out.val h (.int (by decide)) (run0 rfl (sn := 0) rfl (by simp) (by simp [Builtin.firstCells]))
    | @slice o' v' i' sl e2 cap' clip' L' a' hL' h0' h1' h2' h3' h4' ha' =>
      dsimp only at he
      split at he
      · cases he
      · rename_i hc
        have hc1 : e' = esz := by omega
        have hc2 : e2 = esz := by omega
        subst hc1
        subst hc2
        simp only [Option.bind_eq_some_iff, Option.map_eq_some_iff] at he
        obtain ⟨l, hr, S2, hw, hre⟩ := he
        cases hre
        have hl := rd_length hr
        obtain ⟨vs, k1, k2, k3, k4⟩ := slice_cells (P := P) h (.slice hL' h0' h1' h2' h3' h4' ha') (m := min sl dl) (by omega) hr
        have hmm : min sl dl * e2 ≤ dl * e2 := Nat.mul_le_mul_right _ (by omega)
        have hst : ∃ w', (storeCells a vs).run P w = .ok () w' ∧ Sim B w0 ρ S' w' := by
          rcases ha with hz | rfl
          · have hdl : dl = 0 := by omega
            have hl0 : l = [] := List.length_eq_zero_iff.1 (by rw [hl, hdl]; simp)
            have hv0 : vs = [] := List.length_eq_zero_iff.1 (by rw [k1, hdl]; simp)
            subst hl0 hv0
            obtain ⟨w', q1, q2⟩ := wr_run (P := P) h hw (vs := []) .nil rfl hL h0 (by simp; omega)
            refine ⟨w, rfl, ?_⟩
            have : w' = w := by simpa [storeCells] using q1.symm
            rw [← this]
            exact q2
          · exact wr_run (P := P) h hw k2 k3 hL h0 (by omega)
        obtain ⟨w', q1, q2⟩ := hst
        refine Out.of (Rho.le_refl ρ) (.int (wf_nat (by omega))) q2 ?_
        have hmin : Nat.min sl dl = min sl dl := rfl
        simp only [Builtin.copy_, List.getElem?_toArray, List.getElem?_cons_zero, List.getElem?_cons_succ, Sem.run_bind, run_und ht, Result.andThen_ok, Builtin.lenOf, Sem.run_pure, run_size hs, Builtin.firstCells, hmin, k4, q1, goInt]
    | _ => cases he
  | _ => cases he
end
end Go.Proofs.YtkbooepiomobdaaA
