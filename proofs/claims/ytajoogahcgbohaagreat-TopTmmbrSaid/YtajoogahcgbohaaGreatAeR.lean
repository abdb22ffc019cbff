/- An abstract evaluator, part R: an operation that calls nothing, whichever. -/
import Derived.Test.YtajoogahcgbohaaGreatAeQ
set_option linter.unusedVariables false
set_option linter.unusedSimpArgs false
namespace Go.Proofs.YtajoogahcgbohaaGreatA
open Go.RowKit
section
variable {P : Program} {B : Nat} {w0 : Base} {w : World} {ρ : Rho} {S S' : St}
theorem evo_sound {T : Tm} {a : Act} (hT : TR ρ T a.tmps) {x : Option Operand} {y : Option XO} (hc : cXo x = some y) {v : Option AV} (he : evOpt T y = some v) : VRo ρ v (x.map a.eval) := by
  cases x with
  | none => cases hc; cases he; exact trivial
  | some x =>
    simp only [cXo, Option.map_eq_some_iff] at hc
    obtain ⟨y, hy, rfl⟩ := hc
    simp only [evOpt, Option.map_eq_some_iff] at he
    obtain ⟨v, hv, rfl⟩ := he
    exact cX_sound hT hy hv
theorem und_iface {t : TypeId} (h : (match P.underlying t with | some (.interface _) | none => none | _ => some ()) = some ()) : ∃ d, P.underlying t = some d ∧ ∀ m, d ≠ .interface m := by
  cases hu : P.underlying t with
  | none => rw [hu] at h; cases h
  | some d => exact ⟨d, rfl, fun m hm => by rw [hu, hm] at h; cases h⟩
theorem zeroV_inv {t : TypeId} {z : AV} (h : zeroV P t = some z) : ∃ zv, (∀ w, (zeroValue t).run P w = .ok zv w) ∧ ∀ ρ, VR ρ z zv := by
  simp only [zeroV, Option.bind_eq_some_iff] at h
  obtain ⟨zv, ⟨i, hi, hz⟩, hav⟩ := h
  exact ⟨zv, fun w => run_zero hi hz w, fun ρ => ofV_sound _ _ _ hav⟩
theorem assert_sound {t xt : TypeId} {z x r : AV} {ok : Bool} {d : TypeDesc} (hd : P.underlying t = some d) (hni : ∀ m, d ≠ .interface m) (hz : zeroV P t = some z) {cx : Value} (hx : VR ρ x cx)
    (h : aAssert t z ok x = some r) (w : World) : ∃ c, (Instr.typeAssert cx xt t ok).run P w = .ok c w ∧ VR ρ r c := by
  unfold aAssert at h
  obtain ⟨zv, hzr, hzv⟩ := zeroV_inv hz
  cases hx with
  | @iface u v c hv =>
    dsimp only at h
    by_cases hut : u = t
    · rw [if_pos hut] at h
      cases ok
      · cases h
        refine ⟨c, ?_, hv⟩
        simp only [Instr.typeAssert, Sem.run_bind, run_und hd, Result.andThen_ok]
        cases d <;> first | exact absurd rfl (hni _) | simp [hut]
      · cases h
        refine ⟨.tuple #[c, .bool true], ?_, .tuple (.cons hv (.cons .bool .nil))⟩
        simp only [Instr.typeAssert, Sem.run_bind, run_und hd, Result.andThen_ok]
        cases d <;> first | exact absurd rfl (hni _) | simp [hut]
    · rw [if_neg hut] at h
      cases ok
      · cases h
      · cases h
        refine ⟨.tuple #[zv, .bool false], ?_, .tuple (.cons (hzv ρ) (.cons .bool .nil))⟩
        simp only [Instr.typeAssert, Sem.run_bind, run_und hd, Result.andThen_ok]
        cases d <;> first | exact absurd rfl (hni _) | simp [hut, hzr]
  | nilIface =>
    dsimp only at h
    cases ok
    · cases h
    · cases h
      refine ⟨.tuple #[zv, .bool false], ?_, .tuple (.cons (hzv ρ) (.cons .bool .nil))⟩
      simp only [Instr.typeAssert, Sem.run_bind, run_und hd, Result.andThen_ok]
      cases d <;> first | exact absurd rfl (hni _) | simp [hzr]
  | _ => cases h
theorem assertI_sound {t xt : TypeId} {x r : AV} {ok : Bool} {want : Array (String × TypeId)} {yes no : List Nat} (hd : P.underlying t = some (.interface want)) (hz : zeroV P t = some .nilIface)
    (hy : ∀ u ∈ yes, ∃ i, P.info? u = some i ∧ Instr.missingMethod want i.methods = none) (hn : ∀ u ∈ no, ∃ i m, P.info? u = some i ∧ Instr.missingMethod want i.methods = some m) {cx : Value} (hx : VR ρ x cx)
    (h : aAssertI yes no ok x = some r) (w : World) : ∃ c, (Instr.typeAssert cx xt t ok).run P w = .ok c w ∧ VR ρ r c := by
  unfold aAssertI at h
  obtain ⟨zv, hzr, hzv⟩ := zeroV_inv hz
  cases hx with
  | @iface u v c hv =>
    dsimp only at h
    by_cases hut : u ∈ yes
    · rw [if_pos hut] at h
      obtain ⟨i, hi, hm⟩ := hy u hut
      cases ok
      · cases h
        refine ⟨.iface u c, ?_, .iface hv⟩
        simp only [Instr.typeAssert, Sem.run_bind, run_und hd, Result.andThen_ok, run_info hi, hm]
        rfl
      · cases h
        refine ⟨.tuple #[.iface u c, .bool true], ?_, .tuple (.cons (.iface hv) (.cons .bool .nil))⟩
        simp only [Instr.typeAssert, Sem.run_bind, run_und hd, Result.andThen_ok, run_info hi, hm]
        rfl
    · rw [if_neg hut] at h
      split at h
      · rename_i hc
        obtain ⟨hno, rfl⟩ := hc
        obtain ⟨i, m, hi, hm⟩ := hn u hno
        cases h
        refine ⟨.tuple #[zv, .bool false], ?_, .tuple (.cons (hzv ρ) (.cons .bool .nil))⟩
        simp only [Instr.typeAssert, Sem.run_bind, run_und hd, Result.andThen_ok, run_info hi, hm]
        simp [hzr]
      · cases h
  | nilIface =>
    dsimp only at h
    cases ok
    · cases h
    · cases h
      refine ⟨.tuple #[zv, .bool false], ?_, .tuple (.cons (hzv ρ) (.cons .bool .nil))⟩
      simp only [Instr.typeAssert, Sem.run_bind, run_und hd, Result.andThen_ok]
      simp [hzr]
  | _ => cases h
theorem copy_sound (h : Sim B w0 ρ S w) {t u e : TypeId} {esz : Nat} {ty : TypeId} (ht : P.underlying t = some (.slice e)) (hs : szOf P e = some esz) {d s r : AV} {cd cs : Value} (hd : VR ρ d cd) (hss : VR ρ s cs)
    (he : aCopy esz S d s = some (r, S')) :
    Out B w0 ρ S' r ((do pure (Next.value (← Builtin.copy_ #[t, u] ty #[cd, cs])) : Sem Next).run P w) := by
  have run0 : ∀ {base : Option Addr} {dl dc : Nat} {sn : Nat}, cd = .slice base dl dc → (Builtin.lenOf cs).run P w = .ok sn w → Nat.min sn dl = 0 → (Builtin.firstCells esz 0 cs).run P w = .ok #[] w → (Builtin.copy_ #[t, u] ty #[cd, cs]).run P w = .ok (.int .i64 0) w := by
    intro base dl dc sn hcd hl hm hf
    subst hcd
    simp only [Builtin.copy_, List.getElem?_toArray, List.getElem?_cons_zero, List.getElem?_cons_succ, Sem.run_bind, run_und ht, Result.andThen_ok, hl, hm, run_size hs, hf]
    cases base <;> simp [storeCells, goInt]
  unfold aCopy at he
  cases hd with
  | @sliceNil esz' clip =>
    dsimp only at he
    cases hss with
    | sliceNil => cases he; exact Out.val h (.int (by decide)) (run0 rfl (sn := 0) rfl (by simp) (by simp [Builtin.firstCells]))
    | @slice o v i len e' cap clip L a hL h0 h1 h2 h3 h4 ha => cases he; exact Out.val h (.int (by decide)) (run0 rfl (sn := len) rfl (by simp) (by simp [Builtin.firstCells, loadCells, loadCellsFrom]))
    | _ => cases he
  | @slice o v i dl e' cap clip L a hL h0 h1 h2 h3 h4 ha =>
    dsimp only at he
    cases hss with
    | sliceNil => cases he; exact Out.val h (.int (by decide)) (run0 rfl (sn := 0) rfl (by simp) (by simp [Builtin.firstCells]))
    | @slice o' v' i' sl e2 cap' clip' L' a' hL' h0' h1' h2' h3' h4' ha' =>
      dsimp only at he
      split at he
      · cases he
      · rename_i hc
        have hc1 : e' = esz := by omega
        have hc2 : e2 = esz := by omega
        subst hc1
        subst hc2
        simp only [Option.bind_eq_some_iff, Option.map_eq_some_iff] at he
        obtain ⟨l, hr, S2, hw, hre⟩ := he
        cases hre
        have hl := rd_length hr
        obtain ⟨vs, k1, k2, k3, k4⟩ := slice_cells (P := P) h (.slice hL' h0' h1' h2' h3' h4' ha') (m := min sl dl) (by omega) hr
        have hmm : min sl dl * e2 ≤ dl * e2 := Nat.mul_le_mul_right _ (by omega)
        have hst : ∃ w', (storeCells a vs).run P w = .ok () w' ∧ Sim B w0 ρ S' w' := by
          rcases ha with hz | rfl
          · have hdl : dl = 0 := by omega
            have hl0 : l = [] := List.length_eq_zero_iff.1 (by rw [hl, hdl]; simp)
            have hv0 : vs = [] := List.length_eq_zero_iff.1 (by rw [k1, hdl]; simp)
            subst hl0 hv0
            obtain ⟨w', q1, q2⟩ := wr_run (P := P) h hw (vs := []) .nil rfl hL h0 (by simp; omega)
            refine ⟨w, rfl, ?_⟩
            have : w' = w := by simpa [storeCells] using q1.symm
            rw [← this]
            exact q2
          · exact wr_run (P := P) h hw k2 k3 hL h0 (by omega)
        obtain ⟨w', q1, q2⟩ := hst
        refine Out.of (Rho.le_refl ρ) (.int (wf_nat (by omega))) q2 ?_
        have hmin : Nat.min sl dl = min sl dl := rfl
        simp only [Builtin.copy_, List.getElem?_toArray, List.getElem?_cons_zero, List.getElem?_cons_succ, Sem.run_bind, run_und ht, Result.andThen_ok, Builtin.lenOf, Sem.run_pure, run_size hs, Builtin.firstCells, hmin, k4, q1, goInt]
    | _ => cases he
  | _ => cases he
theorem clear_sound (h : Sim B w0 ρ S w) {t e : TypeId} {esz : Nat} {ty : TypeId} (ht : P.underlying t = some (.slice e)) {z : List AV} (hz : zeroOf P e = some z) (hl : z.length = esz) (hpos : 0 < esz) (hza : z.all AV.atom = true) {x r : AV} {cx : Value} (hx : VR ρ x cx)
    (he : aClear esz z S x = some (r, S')) :
    Out B w0 ρ S' r ((do pure (Next.value (← Builtin.clear_ #[t] ty #[cx])) : Sem Next).run P w) := by
  unfold aClear at he
  cases hx with
  | sliceNil => cases he; exact Out.val h (.tuple .nil) (by simp [Builtin.clear_, run_und ht])
  | @slice o v i dl e' cap clip L a hL h0 h1 h2 h3 h4 ha =>
    dsimp only at he
    split at he
    · rename_i hc1
      subst hc1
      simp only [Option.map_eq_some_iff] at he
      obtain ⟨S2, hw, hre⟩ := he
      cases hre
      obtain ⟨i', zv, av, hi, hzv, hvr, rfl⟩ := zero_inv hz
      have hzc := (hvr ρ).cells
      have hzcl := hzc.length
      simp only [Array.length_toList] at hzcl
      by_cases hd0 : dl = 0
      · subst hd0
        obtain ⟨w', q1, q2⟩ := wr_run (P := P) h hw (vs := []) .nil rfl hL h0 (by simp [rep]; omega)
        have : w' = w := by simpa [storeCells] using q1.symm
        rw [this] at q2
        exact Out.of (Rho.le_refl ρ) (.tuple .nil) q2 (by simp [Builtin.clear_, run_und ht])
      · obtain ⟨m, rfl⟩ := Nat.exists_eq_succ_of_ne_zero hd0
        have ha' : a = ⟨L.blk, L.at i, none⟩ := by
          rcases ha with h5 | h5
          · omega
          · exact h5
        subst ha'
        have hvs := zeros_VRs hzc (by omega) (m + 1)
        obtain ⟨w', q1, q2⟩ := wr_run (P := P) h hw hvs (rep_atoms hza) hL h0 (by rw [rep_length, hl]; omega)
        refine Out.of (Rho.le_refl ρ) (.tuple .nil) q2 ?_
        have hq : (Builtin.zeroCells zv.cells (m + 1)).toList = ((Array.range ((m + 1) * av.cells.length)).map fun j => zv.cells[j % zv.cells.size]!).toList := by
          simp [Builtin.zeroCells, hzcl]
        simp only [Builtin.clear_, List.getElem?_toArray, List.getElem?_cons_zero, Sem.run_bind, run_und ht, Result.andThen_ok, run_zero hi hzv, Nat.succ_eq_add_one, hq, q1, Sem.run_pure]
    · cases he
  | _ => cases he
/-! ### Maps of whole numbers -/
theorem mapT_inv {t : TypeId} {p : IntKind × IntKind} (h : mapT P t = some p) : ∃ kt et, P.underlying t = some (.map kt et) ∧ P.underlying kt = some (.int p.1) ∧ ∀ w, (zeroValue et).run P w = .ok (.int p.2 0) w := by
  unfold mapT at h
  split at h
  · rename_i k e hu
    split at h
    · rename_i kk kv z hk hz
      split at h
      · rename_i h0
        cases h
        subst h0
        obtain ⟨zv, h1, h2⟩ := zeroV_inv hz
        cases h2 (fun _ _ => none)
        exact ⟨k, e, hu, hk, h1⟩
      · cases h
    · cases h
  · cases h
theorem findNow_eq (kd kk kv : IntKind) (k : Int) : ∀ (l : List (Int × Int × Nat)) (i : Nat), Instr.findNow (.int kd) (.int kk k) (toEs kk kv l) i = some ((findM k l i).map fun e => (e.1, .int kv e.2.1))
  | [], _ => rfl
  | e :: r, i => by
    have ih := findNow_eq kd kk kv k r (i + 1)
    simp only [toEs, List.map_cons, Instr.findNow, Instr.sameNow, if_true, findM] at ih ⊢
    by_cases h : k = e.1
    · simp [h]
    · simp only [h, if_false]
      rw [show (k == e.1) = false by simpa using h]
      exact ih
theorem run_findKey {kt : TypeId} {kd : IntKind} (hk : P.underlying kt = some (.int kd)) (kk kv : IntKind) (k : Int) (l : List (Int × Int × Nat)) (w : World) :
    (Instr.findKey kt (.int kk k) (toEs kk kv l)).run P w = .ok ((findM k l 0).map fun e => (e.1, .int kv e.2.1)) w := by
  simp only [Instr.findKey, Sem.run_bind, run_und hk, Result.andThen_ok, findNow_eq, Sem.run_pure]
theorem run_checkKey {kt : TypeId} {kd : IntKind} (hk : P.underlying kt = some (.int kd)) (e : Bool) (n : Nat) (v : Value) (w : World) : (Instr.checkKey e (n + 1) kt v).run P w = .ok () w := by
  simp only [Instr.checkKey, Sem.run_bind, run_und hk, Result.andThen_ok]
  cases v <;> rfl
theorem toEs_setM (kk kv : IntKind) (l : List (Int × Int × Nat)) (i : Nat) (v : Int) : toEs kk kv (setM l i v) = (toEs kk kv l).modify i fun e => { e with val := .int kv v } := by
  apply List.ext_getElem?
  intro j
  simp only [toEs, setM, List.getElem?_map, List.getElem?_modify]
  cases l[j]? with
  | none => rfl
  | some e => by_cases h : i = j <;> simp [h]
theorem mem_setM {l : List (Int × Int × Nat)} {i : Nat} {v : Int} {e : Int × Int × Nat} (h : e ∈ setM l i v) : e.2.1 = v ∨ e ∈ l := by
  obtain ⟨j, hj⟩ := List.mem_iff_getElem?.1 h
  simp only [setM, List.getElem?_modify] at hj
  cases hl : l[j]? with
  | none => rw [hl] at hj; cases hj
  | some x =>
    rw [hl] at hj
    by_cases he : i = j
    · simp [he] at hj; subst hj; exact .inl rfl
    · simp [he] at hj; subst hj; exact .inr (List.mem_of_getElem? hl)
theorem wf_zero (k : IntKind) : (Lit.int k 0).wf = true := by cases k <;> rfl
/-- A map is turned. -/
theorem Sim.setMap (h : Sim B w0 ρ S w) {o : Nat} {kk kv : IntKind} {l l' : List (Int × Int × Nat)} {c c' : Nat} (hg : S.get o = some (.map kk kv l c)) {L : Loc} (hL : ρ o 0 = some L) {es : Array MapEntry} (hes : es.toList = toEs kk kv l') (hwf : ∀ e ∈ l', (Lit.int kv e.2.1).wf = true) :
    Sim B w0 ρ (S.put o (.map kk kv l' c')) { w with heap := w.heap.setIfInBounds L.blk (.map es c') } := by
  have hi : MapAt B ρ w o kk kv l c := h.obj _ _ hg
  have hB := hi.side 0 L hL
  have hLw := h.heap _ _ _ hL
  refine h.upd o _ (fun j => St.get_put _ _ _ _) (Nat.le_refl _) (h.dom _ _ hg) (fun _ _ _ => rfl) (Rho.le_refl _) (Below.set_ h.below hB _) (by simp) ?_ ?_ (fun u L' e' => .inr ⟨u, L', e', rfl⟩) ?_
  · intro b' hb
    by_cases hbl : b' = L.blk
    · subst hbl; exact .inr ⟨hB, 0, L, hL, rfl⟩
    · left; simp [Array.getElem?_setIfInBounds_ne (Ne.symm hbl)]
  · intro u L' e'; simpa using h.heap _ u L' e'
  · refine (show MapAt _ _ _ _ _ _ _ _ from ⟨hi.side, ?_, hi.uniq, hwf⟩)
    intro u L' e'
    have hbl : L'.blk = L.blk := hi.uniq u L' 0 L e' hL
    exact ⟨es, by rw [hbl]; simp [hLw], hes⟩
theorem mkMap_sound (h : Sim B w0 ρ S w) (kk kv : IntKind) : ∃ ρ', ρ.le ρ' ∧ VR ρ' (.map (some S.next)) (.map (some w.heap.size)) ∧ Sim B w0 ρ' (S.alloc (.map kk kv [] 0)) { w with heap := w.heap.push (.map #[] 0) } := by
  have hnone : ∀ u, ρ S.next u = none := fun u => by
    cases hq : ρ S.next u with
    | none => rfl
    | some L => exact absurd (h.fresh _ _ _ hq) (Nat.lt_irrefl _)
  have hle : ρ.le (fun o u => if o = S.next ∧ u = 0 then some ⟨w.heap.size, 0, 0, 1, 1⟩ else ρ o u) := by
    intro o u L e'
    by_cases ho : o = S.next ∧ u = 0
    · rw [ho.1, hnone] at e'; cases e'
    · simp only [if_neg ho]; exact e'
  have only : ∀ u L, (if S.next = S.next ∧ u = 0 then some (⟨w.heap.size, 0, 0, 1, 1⟩ : Loc) else ρ S.next u) = some L → u = 0 ∧ L = ⟨w.heap.size, 0, 0, 1, 1⟩ := by
    intro u L e'
    by_cases hu : u = 0
    · simp [hu] at e'; exact ⟨hu, e'.symm⟩
    · rw [if_neg (fun k => hu k.2), hnone] at e'; cases e'
  refine ⟨_, hle, VR.map (L := ⟨w.heap.size, 0, 0, 1, 1⟩) (by simp), ?_⟩
  refine h.upd S.next (.map kk kv [] 0) (fun o => St.get_alloc _ _ _) (by simp [St.alloc]) (by simp [St.alloc]) (fun o u ho => if_neg fun k => ho k.1) hle ?_ (by simp) ?_ ?_ ?_ ?_
  · exact ⟨h.below.os, h.below.tape, h.below.output, Nat.le_trans h.below.size (by simp), fun k hk => by
      rw [← h.below.block k hk]
      simp [Array.getElem?_push, Nat.ne_of_lt (Nat.lt_of_lt_of_le hk h.base)]⟩
  · intro b' hb; left; simp [Array.getElem?_push, Nat.ne_of_lt hb]
  · intro u L e'; obtain ⟨_, rfl⟩ := only u L e'; simp
  · intro u L e'; obtain ⟨_, rfl⟩ := only u L e'; exact .inl (Nat.le_refl _)
  · refine (show MapAt _ _ _ _ _ _ _ _ from ⟨?_, ?_, fun u L u' L' e1 e2 => by obtain ⟨_, rfl⟩ := only u L e1; obtain ⟨_, rfl⟩ := only u' L' e2; rfl, by simp⟩)
    · intro u L e'; obtain ⟨_, rfl⟩ := only u L e'; exact h.base
    · intro u L e'; obtain ⟨_, rfl⟩ := only u L e'; exact ⟨#[], by simp, rfl⟩
theorem map_run {o : Nat} {c : Value} (hv : VR ρ (.map (some o)) c) : ∃ L, ρ o 0 = some L ∧ c = .map (some L.blk) := by
  cases hv with | map hL => exact ⟨_, hL, rfl⟩
theorem lookup_sound (h : Sim B w0 ρ S w) {t : TypeId} {p : IntKind × IntKind} (ht : mapT P t = some p) {o : Nat} {cm : Value} (hm : VR ρ (.map (some o)) cm) {l : List (Int × Int × Nat)} {c : Nat} (hg : S.get o = some (.map p.1 p.2 l c)) (k : Int) (ok : Bool) :
    ∃ x, (Instr.lookup t cm (.int p.1 k) ok).run P w = .ok x w ∧ VR ρ (aLook ok p.2 k l) x := by
  obtain ⟨kt, et, h1, h2, h3⟩ := mapT_inv ht
  obtain ⟨L, hL, rfl⟩ := map_run hm
  have hi : MapAt B ρ w o p.1 p.2 l c := h.obj _ _ hg
  obtain ⟨es, k1, k2⟩ := hi.mem 0 L hL
  have hw : ∀ e, findM k l 0 = some e → (Lit.int p.2 e.2.1).wf = true := by
    have : ∀ (l : List (Int × Int × Nat)) (i : Nat) e, findM k l i = some e → ∃ x ∈ l, x.2.1 = e.2.1 := by
      intro l
      induction l with
      | nil => intro i e he; cases he
      | cons a r ih =>
        intro i e he
        simp only [findM] at he
        split at he
        · cases he; exact ⟨a, List.mem_cons_self, rfl⟩
        · obtain ⟨x, hx, hxe⟩ := ih _ _ he; exact ⟨x, List.mem_cons_of_mem _ hx, hxe⟩
    intro e he
    obtain ⟨x, hx, hxe⟩ := this l 0 e he
    rw [← hxe]; exact hi.wf x hx
  unfold aLook
  simp only [Instr.lookup, Sem.run_bind, run_und h1, Result.andThen_ok, getObj, Sem.run, k1, run_checkKey h2, k2, run_findKey h2, Sem.run_pure]
  cases hf : findM k l 0 with
  | none =>
    simp only [Option.map_none, Sem.run_bind, h3, Result.andThen_ok, Sem.run_pure]
    cases ok with
    | true => exact ⟨_, rfl, .tuple (.cons (.int (wf_zero _)) (.cons .bool .nil))⟩
    | false => exact ⟨_, rfl, .int (wf_zero _)⟩
  | some e =>
    simp only [Option.map_some, Sem.run_bind, Result.andThen_ok, Sem.run_pure]
    cases ok with
    | true => exact ⟨_, rfl, .tuple (.cons (.int (hw e hf)) (.cons .bool .nil))⟩
    | false => exact ⟨_, rfl, .int (hw e hf)⟩
theorem findM_at (k : Int) : ∀ (l : List (Int × Int × Nat)) (i : Nat) {e : Nat × Int × Nat}, findM k l i = some e → ∃ j x, e.1 = i + j ∧ l[j]? = some x ∧ x.1 = k
  | [], _, _, h => by cases h
  | a :: r, i, e, h => by
    simp only [findM] at h
    split at h
    · rename_i hk; cases h; exact ⟨0, a, rfl, rfl, hk.symm⟩
    · obtain ⟨j, x, h1, h2, h3⟩ := findM_at k r (i + 1) h
      exact ⟨j + 1, x, by omega, by simpa using h2, h3⟩
theorem mapSet_sound (h : Sim B w0 ρ S w) {t : TypeId} {p : IntKind × IntKind} (ht : mapT P t = some p) {o : Nat} {cm : Value} (hm : VR ρ (.map (some o)) cm) {l : List (Int × Int × Nat)} {c : Nat} (hg : S.get o = some (.map p.1 p.2 l c)) (k : Int) {v : Int} (hv : (Lit.int p.2 v).wf = true) :
    ∃ w', (Instr.mapUpdate t cm (.int p.1 k) (.int p.2 v)).run P w = .ok () w' ∧ Sim B w0 ρ (S.put o (putM p.1 p.2 k v l c)) w' := by
  obtain ⟨kt, et, h1, h2, h3⟩ := mapT_inv ht
  obtain ⟨L, hL, rfl⟩ := map_run hm
  have hi : MapAt B ρ w o p.1 p.2 l c := h.obj _ _ hg
  obtain ⟨es, k1, k2⟩ := hi.mem 0 L hL
  unfold putM
  cases hf : findM k l 0 with
  | none =>
    refine ⟨_, ?_, h.setMap (l' := l ++ [(k, v, c)]) (c' := c + 1) (es := es.push { key := .int p.1 k, val := .int p.2 v, born := c }) hg hL (by simp [toEs, k2]) fun e he => ?_⟩
    · simp only [Instr.mapUpdate, Sem.run_bind, run_und h1, Result.andThen_ok, getObj, setObj, Sem.run, k1, run_checkKey h2, k2, run_findKey h2, hf, Option.map_none, Sem.run_pure]
    · rcases List.mem_append.1 he with he | he
      · exact hi.wf e he
      · simp only [List.mem_singleton] at he; subst he; exact hv
  | some e =>
    obtain ⟨j, x, e1, e2, e3⟩ := findM_at k l 0 hf
    rw [Nat.zero_add] at e1
    have hx : (toEs p.1 p.2 l)[e.1]? = some { key := .int p.1 k, val := .int p.2 x.2.1, born := x.2.2 } := by
      rw [e1]; simp [toEs, e2, e3]
    have hes : es[e.1]? = some { key := .int p.1 k, val := .int p.2 x.2.1, born := x.2.2 } := by rw [← Array.getElem?_toList, k2]; exact hx
    have hkey : (Instr.keyThatStays (((es[e.1]?).map (·.key)).getD (.int p.1 k)) (.int p.1 k)).run P w = .ok (.int p.1 k) w := by
      rw [hes]
      simp only [Instr.keyThatStays, Option.map_some, Option.getD_some, Instr.sameBits, beq_self_eq_true, Bool.and_self, if_true, Sem.run_pure]
    refine ⟨_, ?_, h.setMap (l' := setM l e.1 v) (c' := c) (es := es.modify e.1 fun e => { e with key := .int p.1 k, val := .int p.2 v }) hg hL ?_ fun y he => ?_⟩
    · simp only [Instr.mapUpdate, Sem.run_bind, run_und h1, Result.andThen_ok, getObj, setObj, Sem.run, k1, run_checkKey h2, k2, run_findKey h2, hf, Option.map_some, hkey, Sem.run_pure]
    · rw [toEs_setM, Array.toList_modify, k2]
      apply List.ext_getElem?
      intro q
      simp only [List.getElem?_modify]
      by_cases hq : e.1 = q
      · subst hq; rw [hx]; rfl
      · cases (toEs p.1 p.2 l)[q]? <;> simp [hq]
    · rcases mem_setM he with he | he
      · rw [he]; exact hv
      · exact hi.wf y he
end
end Go.Proofs.YtajoogahcgbohaaGreatA
