/- An abstract evaluator, part U: operations of a region, calls among them. -/
import Derived.Test.YtajoogahcgbohaaGreatAeT
set_option linter.unusedVariables false
set_option linter.unusedSimpArgs false
namespace Go.Proofs.YtajoogahcgbohaaGreatA
open Go.RowKit

/-! ### Operations, their types resolved -/
def cGuard (ops : Array Oper) : Option (Nat × Bool) → Option (Option (Nat × Bool))
  | none => some none
  | some (j, b) => ((ops[j]?).bind (·.dst)).map fun g => some (g, b)
def cDst (n : Nat) : Option Tmp → Bool
  | none => true
  | some d => Nat.blt d n
def cOper (P : Program) (n : Nat) (ops : Array Oper) (o : Oper) : Option AOper :=
  (cOp P o.op).bind fun op => bif (op.calls == !plainOp o.op) && cDst n o.dst then (cGuard ops o.guard).map fun g => ⟨o.dst, g, op⟩ else none
def cOps (P : Program) (n : Nat) (ops : Array Oper) : List Oper → Option (List AOper)
  | [] => some []
  | o :: r => (cOper P n ops o).bind fun x => (cOps P n ops r).map (x :: ·)
structure EntryOk (P : Program) (f : Nat) : Prop where
  out : ∃ fn, P.funcs[f]? = some fn ∧ fn.body.isNone = false ∧ (fn.name == "runtime.NumGoroutine") = false
/-- What a call comes to, in every world that the state stands for. -/
def Con (P : Program) (f : Nat) (args : List AV) (S : St) (v : AV) (S' : St) : Prop :=
  ∀ (B : Nat) (w0 : Base) (ρ : Rho) (w : World) (cs : List Value), Sim B w0 ρ S w → VRs ρ args cs →
    Calls P f cs.toArray w fun e w' => ∃ ρ' c, ρ.le ρ' ∧ e = .returned c ∧ VR ρ' v c ∧ Sim B w0 ρ' S' w'
def CallOk (P : Program) (call : Nat → List AV → St → Option (AV × St)) : Prop :=
  ∀ f args S v S', call f args S = some (v, S') → EntryOk P f ∧ Con P f args S v S'

section
variable {P : Program} {B : Nat} {w0 : Base} {w : World} {ρ : Rho} {S S' : St}
theorem guard_sound {T : Tm} {a : Act} (hT : TR ρ T a.tmps) {ops : Array Oper} {o : Oper} {g : Option (Nat × Bool)} (hg : cGuard ops o.guard = some g) {b : Bool} (hw : wanted g T = some b) :
    Region.wanted o (yielded ops a.tmps) = b := by
  unfold Region.wanted
  cases ho : o.guard with
  | none => rw [ho] at hg; cases hg; cases hw; rfl
  | some p =>
    obtain ⟨j, b'⟩ := p
    rw [ho] at hg
    simp only [cGuard, Option.map_eq_some_iff] at hg
    obtain ⟨d, hd, rfl⟩ := hg
    simp only [wanted] at hw
    split at hw
    · rename_i c hc
      cases hw
      obtain ⟨v, h1, h2⟩ := hT d _ hc
      cases h2
      simp only [yielded, hd, Option.bind_some, h1]
      cases c <;> cases b' <;> rfl
    · rename_i v hne hc
      cases hw
      obtain ⟨u, h1, h2⟩ := hT d _ hc
      simp only [yielded, hd, Option.bind_some, h1]
      cases h2 <;> first | (exact absurd rfl (hne _)) | (cases b' <;> rfl)
    · cases hw
theorem run_callFunc {f : Nat} (h : EntryOk P f) (args : Array Value) (w : World) : (callFunc f args).run P w = .ok (.enter f args) w := by
  obtain ⟨fn, h1, h2, h3⟩ := h.out
  simp only [callFunc, Sem.run_bind, run_program, Result.andThen_ok, h1, h3, h2, Bool.false_eq_true, if_false, Sem.run_pure]
theorem run_method {name : String} {t f : Nat} (hm : (t, f) ∈ cTab P name) (v : Value) (w : World) :
    (Go.method (P.types.size + Made.depth) t v name).run P w = .ok (f, v) w := by
  simp only [cTab, List.mem_filterMap] at hm
  obtain ⟨t', ht', hm⟩ := hm
  split at hm
  · rename_i i hi
    split at hm
    · rename_i m hf
      split at hm
      · rename_i hp
        split at hm
        · rename_i g pr hfn
          simp only [Option.ite_none_right_eq_some, Option.some.injEq, Prod.mk.injEq] at hm
          obtain ⟨hpr, rfl, rfl⟩ := hm
          have hp' : m.path.toList = [] := by simpa using hp
          have hdp : P.types.size + Made.depth = (P.types.size + 99) + 1 := rfl
          rw [hdp]
          generalize P.types.size + 99 = fuel
          simp only [Go.method, Sem.run_bind, run_info hi, Result.andThen_ok, hf, hp', Go.follow, Sem.run_pure, hfn, Go.receiverAt]
          cases hu : P.underlying t' with
          | none => rw [hu] at hpr; cases pr <;> cases hpr
          | some d =>
            simp only [run_und hu, Result.andThen_ok]
            rw [hu] at hpr
            cases d <;> cases pr <;> first | (cases hpr; done) | simp [Go.Place.get]
        · cases hm
      · cases hm
    · cases hm
  · cases hm
theorem callee_sound {o : Oper} {ao : AOp} (hc : cOp P o.op = some ao) {T : Tm} {a : Act} (hT : TR ρ T a.tmps) {f : Nat} {args : List AV} (he : callee ao T = some (f, args)) (hp : plainOp o.op = false) (hf : EntryOk P f) (w : World) :
    ∃ cs : List Value, VRs ρ args cs ∧ (execOp a.eval o).run P w = .ok (.enter f cs.toArray) w := by
  obtain ⟨dst, op, type, pos, after, guard⟩ := o
  dsimp only at hc hp
  cases op with
  | call c =>
    obtain ⟨cal, args', ats⟩ := c
    have e1 : args'.map a.eval = (args'.toList.map a.eval).toArray := by apply Array.ext'; simp
    cases cal with
    | builtin b => cases hp
    | value x =>
      have main : ∀ (caps : List AV) (l : List AV), args = l ++ caps → VRs ρ l (args'.toList.map a.eval) → ∀ cs : Array Value, VRs ρ caps cs.toList → a.eval x = .func (.func f) #[] cs →
          ∃ cs : List Value, VRs ρ args cs ∧ (execOp a.eval ⟨dst, .call ⟨.value x, args', ats⟩, type, pos, after, guard⟩).run P w = .ok (.enter f cs.toArray) w := by
        intro caps l hl hv cs hcs hx
        subst hl
        refine ⟨args'.toList.map a.eval ++ cs.toList, hv.append hcs, ?_⟩
        simp only [execOp, resolve, hx, Deferred.ofValue, pure_bind, invoke, run_callFunc hf]
        congr 2
        apply Array.ext'; simp
      have gen : ∀ x', cX x = some x' → (∃ ys, cXs args'.toList = some ys ∧ callee (.callV x' ys) T = some (f, args)) → 
          ∃ cs : List Value, VRs ρ args cs ∧ (execOp a.eval ⟨dst, .call ⟨.value x, args', ats⟩, type, pos, after, guard⟩).run P w = .ok (.enter f cs.toArray) w := by
        rintro x' hx' ⟨ys, hys, he⟩
        simp only [callee, Option.bind_eq_some_iff] at he
        obtain ⟨fv, hfv, he⟩ := he
        have hxv := cX_sound hT hx' hfv
        cases fv with
        | func g caps =>
          simp only [Option.map_eq_some_iff, Prod.mk.injEq] at he
          obtain ⟨l, hl, rfl, rfl⟩ := he
          generalize hgx : a.eval x = cx at hxv
          cases hxv with
          | @func _ _ cs hcs => exact main caps l rfl (cXs_sound hT hys hl) cs hcs hgx
        | _ => cases he
      cases x with
      | func g =>
        simp only [cOp, Option.map_eq_some_iff] at hc
        obtain ⟨ys, hys, rfl⟩ := hc
        simp only [callee, Option.map_eq_some_iff, Prod.mk.injEq] at he
        obtain ⟨l, hl, rfl, rfl⟩ := he
        exact main [] l (by simp) (cXs_sound hT hys hl) #[] .nil rfl
      | _ =>
        simp only [cOp, Option.bind_eq_some_iff, Option.map_eq_some_iff] at hc
        obtain ⟨x', hx', ys, hys, rfl⟩ := hc
        exact gen x' hx' ⟨ys, hys, he⟩
    | invoke x name =>
      simp only [cOp, Option.bind_eq_some_iff, Option.map_eq_some_iff] at hc
      obtain ⟨x', hx', ys, hys, rfl⟩ := hc
      simp only [callee, Option.bind_eq_some_iff] at he
      obtain ⟨fv, hfv, he⟩ := he
      have hxv := cX_sound hT hx' hfv
      cases fv with
      | iface t v =>
        simp only [Option.bind_eq_some_iff, Option.map_eq_some_iff, Prod.mk.injEq] at he
        obtain ⟨⟨t', f'⟩, hfi, l, hl, hf1, rfl⟩ := he
        dsimp only at hf1
        subst hf1
        have ht : t' = t := by have := List.find?_some hfi; simpa using this
        subst ht
        have hmem := List.mem_of_find?_eq_some hfi
        generalize hgx : a.eval x = cx at hxv
        cases hxv with
        | @iface _ _ c hv =>
          refine ⟨c :: args'.toList.map a.eval, .cons hv (cXs_sound hT hys hl), ?_⟩
          simp only [execOp, resolve, hgx, pure_bind, invoke]
          have e0 : (#[Value.iface t' c] ++ args'.map a.eval)[0]? = some (.iface t' c) := by rw [Array.getElem?_append_left (by simp)]; rfl
          simp only [e0, callMethod, Sem.run_bind, run_program, Result.andThen_ok, run_method hmem, run_callFunc hf]
          congr 2
          apply Array.ext'
          simp [List.take_of_length_le]
      | _ => cases he
  | _ => cases hp
theorem oper_sound {call : Nat → List AV → St → Option (AV × St)} (hcall : CallOk P call) {ops : Array Oper} {i n : Nat} {o : Oper} {ao : AOper} (ho : ops[i]? = some o) (hc : cOper P n ops o = some ao)
    {T : Tm} {a : Act} (hT : TR ρ T a.tmps) (h : Sim B w0 ρ S w) {v : AV} (he : evOper call ao T S = some (v, S')) {Q : Exit → Act → World → Prop} {K : Act → World → Prop}
    (hK : ∀ ρ' c w', ρ.le ρ' → VR ρ' v c → Sim B w0 ρ' S' w' → K (a.put o.dst c) w') : wpOp P ops Q i K a w := by
  simp only [cOper, Option.bind_eq_some_iff] at hc
  obtain ⟨op, hop, hc⟩ := hc
  cases hb : (op.calls == !plainOp o.op) && cDst n o.dst with
  | false => rw [hb] at hc; cases hc
  | true =>
    rw [hb] at hc
    simp only [cond_true, Option.map_eq_some_iff] at hc
    obtain ⟨g, hg, rfl⟩ := hc
    simp only [Bool.and_eq_true, beq_iff_eq] at hb
    simp only [evOper, Option.bind_eq_some_iff] at he
    obtain ⟨wb, hwb, he⟩ := he
    have hw := guard_sound hT hg hwb
    unfold wpOp
    simp only [ho, hw]
    cases wb with
    | false =>
      cases he
      simp only [Bool.false_eq_true, if_false]
      exact hK ρ undef w (Rho.le_refl ρ) VR.undef h
    | true =>
      simp only [cond_true] at he
      simp only [if_true]
      refine .inl ?_
      unfold Oper.wp
      cases hcs : op.calls with
      | false =>
        simp only [evAny, hcs, cond_false] at he
        obtain ⟨ρ', c, w', h1, h2, h3, h4⟩ := op_sound hop (by cases hp : plainOp o.op with | true => rfl | false => rw [hp, hcs] at hb; simp at hb) hT h he
        rcases h4 with h4 | ⟨h4, rfl⟩
        · rw [h4]; exact hK ρ' c w' h1 h2 h3
        · rw [h4]; exact hK ρ' _ w' h1 h2 h3
      | true =>
        simp only [evAny, hcs, cond_true, Option.bind_eq_some_iff] at he
        obtain ⟨⟨f, args⟩, hf, he⟩ := he
        obtain ⟨hen, hcon⟩ := hcall f args S v S' he
        obtain ⟨cs, hcs', hrun⟩ := callee_sound hop hT hf (by cases hp : plainOp o.op with | false => rfl | true => rw [hp, hcs] at hb; simp at hb) hen w
        rw [hrun, Oper.upon_enter]
        refine Calls.mono (hcon B w0 ρ w cs h hcs') ?_
        rintro e w' ⟨ρ', c, h1, rfl, h2, h3⟩
        exact hK ρ' c w' h1 h2 h3
theorem cOper_dst {n : Nat} {ops : Array Oper} {o : Oper} {ao : AOper} (hc : cOper P n ops o = some ao) : ao.dst = o.dst ∧ (∀ d, o.dst = some d → d < n) := by
  simp only [cOper, Option.bind_eq_some_iff] at hc
  obtain ⟨op, hop, hc⟩ := hc
  cases hb : (op.calls == !plainOp o.op) && cDst n o.dst with
  | false => rw [hb] at hc; cases hc
  | true =>
    rw [hb] at hc
    simp only [cond_true, Option.map_eq_some_iff] at hc
    obtain ⟨g, hg, rfl⟩ := hc
    simp only [Bool.and_eq_true] at hb
    refine ⟨rfl, fun d hd => ?_⟩
    have := hb.2
    rw [hd] at this
    exact of_decide_eq_true (by simpa [cDst, Nat.blt_eq] using this)
theorem TR.putD {T : Tm} {a : Act} (h : TR ρ T a.tmps) {d : Option Nat} (hd : ∀ x, d = some x → x < a.tmps.size) {v : AV} {c : Value} (hv : VR ρ v c) : TR ρ (putD T d v) (a.put d c).tmps := by
  cases d with
  | none => exact h
  | some d => exact TR.put h (hd d rfl) hv
theorem put_size (a : Act) (d : Option Nat) (c : Value) : (a.put d c).tmps.size = a.tmps.size := by cases d <;> simp [Act.put]
theorem put_defers (a : Act) (d : Option Nat) (c : Value) : (a.put d c).defers = a.defers := by cases d <;> rfl
end
end Go.Proofs.YtajoogahcgbohaaGreatA
