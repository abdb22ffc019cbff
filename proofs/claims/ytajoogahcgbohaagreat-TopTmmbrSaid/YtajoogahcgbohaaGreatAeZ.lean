/- An abstract evaluator, part Z: functions, calls, what is known of a whole call. -/
import Derived.Test.YtajoogahcgbohaaGreatAeY
set_option linter.unusedVariables false
set_option linter.unusedSimpArgs false
namespace Go.Proofs.YtajoogahcgbohaaGreatA
open Go.RowKit

def cRes (P : Program) : List ResultVar → Option (List RV)
  | [] => some []
  | .tmp t :: r => (cRes P r).map (.tmp t :: ·)
  | .cell a t :: r => (isAggT P t).bind fun g => (szOf P t).bind fun n => (cRes P r).map ((bif g then .cellN a n else .cell1 a) :: ·)
def cFunc (P : Program) (fn : Func) : Option AFunc :=
  bif fn.name == "runtime.NumGoroutine" then none else fn.body.bind fun c => (cCode P fn.ntmps c).bind fun ac => (cRes P fn.results.toList).map fun rs => ⟨fn.ntmps, rs, ac⟩
section
variable {P : Program} {B : Nat} {w0 : Base} {w : World} {n : Nat} {ρ : Rho}
def resOf (tmps : Array Value) : ResultVar → Sem Value
  | .tmp t => pure (tmps.getD t undef)
  | .cell a t => do loadVar t (← asAddr (tmps.getD a undef))
theorem run_results_list {α : Type} (f : α → Sem Value) : ∀ (l : List α) (vs : List Value) (w : World), (∀ (i : Nat) a, l[i]? = some a → ∃ v, vs[i]? = some v ∧ (f a).run P w = .ok v w) → l.length = vs.length → (l.mapM f).run P w = .ok vs w
  | [], [], w, _, _ => by simp
  | a :: l, v :: vs, w, h, hl => by
    obtain ⟨v', h1, h2⟩ := h 0 a rfl
    simp only [List.getElem?_cons_zero, Option.some.injEq] at h1
    subst h1
    have := run_results_list f l vs w (fun i a hi => by have := h (i + 1) a (by simpa using hi); simpa using this) (by simpa using hl)
    simp only [List.mapM_cons, Sem.run_bind, h2, Result.andThen_ok, this, Sem.run_pure]
theorem tr_getD {T : Tm} {tmps : Array Value} (hT : TR ρ T tmps) {t : Nat} {v : AV} (h : T.get t = some v) : VR ρ v (tmps.getD t undef) := by
  obtain ⟨c, h1, h2⟩ := hT t v h
  have : tmps.getD t undef = c := by simp [Array.getD_eq_getD_getElem?, h1]
  rw [this]; exact h2
theorem ptr_shape {p : Pl} {c : Value} (h : VR ρ (.ptr (some p)) c) : ∃ a, c = .pointer (some a) := by cases h; exact ⟨_, rfl⟩
theorem res_sound {T : Tm} {S : St} {a : Act} (h : Rel B w0 n ρ T S a w) : ∀ {l : List ResultVar} {rs : List RV} {vs : List AV}, cRes P l = some rs → evRes T S rs = some vs →
    ∃ cs : List Value, VRs ρ vs cs ∧ cs.length = l.length ∧ ∀ (i : Nat) x, l[i]? = some x → ∃ v, cs[i]? = some v ∧ (resOf a.tmps x).run P w = .ok v w
  | [], rs, vs, hc, he => by cases hc; cases he; exact ⟨[], .nil, rfl, fun i x hx => by simp at hx⟩
  | .tmp t :: r, rs, vs, hc, he => by
    simp only [cRes, Option.map_eq_some_iff] at hc
    obtain ⟨r', hr, rfl⟩ := hc
    simp only [evRes, Option.bind_eq_some_iff, Option.map_eq_some_iff] at he
    obtain ⟨v, hv, vs', hvs, rfl⟩ := he
    obtain ⟨cs, h1, h2, h3⟩ := res_sound h hr hvs
    refine ⟨a.tmps.getD t undef :: cs, .cons (tr_getD h.tr hv) h1, by simp [h2], fun i x hx => ?_⟩
    cases i with
    | zero => simp only [List.getElem?_cons_zero, Option.some.injEq] at hx; subst hx; exact ⟨_, rfl, by simp [resOf]⟩
    | succ i => simpa using h3 i x (by simpa using hx)
  | .cell t ty :: r, rs, vs, hc, he => by
    simp only [cRes, Option.bind_eq_some_iff, Option.map_eq_some_iff] at hc
    obtain ⟨g, hg, m, hm, r', hr, rfl⟩ := hc
    have main : ∀ v vs', (∃ c, (resOf a.tmps (.cell t ty)).run P w = .ok c w ∧ VR ρ v c) → evRes T S r' = some vs' → vs = v :: vs' →
        ∃ cs : List Value, VRs ρ vs cs ∧ cs.length = (ResultVar.cell t ty :: r).length ∧ ∀ (i : Nat) x, (ResultVar.cell t ty :: r)[i]? = some x → ∃ v, cs[i]? = some v ∧ (resOf a.tmps x).run P w = .ok v w := by
      rintro v vs' ⟨c, hrun, hvc⟩ hvs rfl
      obtain ⟨cs, h1, h2, h3⟩ := res_sound h hr hvs
      refine ⟨c :: cs, .cons hvc h1, by simp [h2], fun i x hx => ?_⟩
      cases i with
      | zero => simp only [List.getElem?_cons_zero, Option.some.injEq] at hx; subst hx; exact ⟨_, rfl, hrun⟩
      | succ i => simpa using h3 i x (by simpa using hx)
    have load : ∀ {p : Pl} {v : AV}, T.get t = some (.ptr (some p)) → (∃ x, (Instr.loadAt ty (a.tmps.getD t undef)).run P w = .ok x w ∧ VR ρ v x) → ∃ c, (resOf a.tmps (.cell t ty)).run P w = .ok c w ∧ VR ρ v c := by
      rintro p v hp ⟨x, h1, h2⟩
      obtain ⟨ad, had⟩ := ptr_shape (tr_getD h.tr hp)
      refine ⟨x, ?_, h2⟩
      rw [had] at h1
      simp only [resOf, had]
      simpa [Instr.loadAt, Instr.sureAddr, asAddr] using h1
    cases g with
    | true =>
      simp only [cond_true, evRes, Option.bind_eq_some_iff] at he
      obtain ⟨v, hv, he⟩ := he
      cases v with
      | ptr p =>
        cases p with
        | none => cases he
        | some p =>
          dsimp only at he
          cases hb : Nat.ble m p.n with
          | false => rw [hb] at he; cases he
          | true =>
            rw [hb] at he
            simp only [cond_true, Option.bind_eq_some_iff, Option.map_eq_some_iff] at he
            obtain ⟨l, hl, vs', hvs, rfl⟩ := he
            exact main _ _ (load hv (loadN_sound h.sim hg hm (tr_getD h.tr hv) hl (Nat.le_of_ble_eq_true hb))) hvs rfl
      | _ => cases he
    | false =>
      simp only [cond_false, evRes, Option.bind_eq_some_iff] at he
      obtain ⟨v, hv, he⟩ := he
      cases v with
      | ptr p =>
        cases p with
        | none => cases he
        | some p =>
          dsimp only at he
          cases hb : Nat.ble 1 p.n with
          | false => rw [hb] at he; cases he
          | true =>
            rw [hb] at he
            simp only [cond_true, Option.bind_eq_some_iff, Option.map_eq_some_iff] at he
            obtain ⟨l, hl, x, hx, vs', hvs, rfl⟩ := he
            have hl1 : l = [x] := by
              have hlen : l.length = 1 := by
                unfold St.rd at hl
                split at hl
                · rename_i c ver minv own _
                  cases hbb : Nat.ble minv p.v && Nat.ble p.v ver && Nat.ble (p.i + 1) c.length with
                  | false => rw [hbb] at hl; cases hl
                  | true =>
                    rw [hbb] at hl
                    cases hl
                    simp only [Bool.and_eq_true, Nat.ble_eq] at hbb
                    simp; omega
                · rename_i c ver minv g _
                  cases hbb : Nat.ble minv p.v && Nat.ble p.v ver && Nat.ble (p.i + 1) c.length && (Nat.beq p.v ver || Nat.ble (p.i + 1) g) with
                  | false => rw [hbb] at hl; cases hl
                  | true =>
                    rw [hbb] at hl
                    cases hl
                    simp only [Bool.and_eq_true, Nat.ble_eq] at hbb
                    simp; omega
                · cases hl
              cases l with
              | nil => cases hx
              | cons y l => cases l with
                | nil => cases hx; rfl
                | cons => simp at hlen
            subst hl1
            exact main _ _ (load hv (load1_sound h.sim hg (tr_getD h.tr hv) hl (Nat.le_of_ble_eq_true hb))) hvs rfl
      | _ => cases he
theorem results_sound {T : Tm} {S : St} {a : Act} (h : Rel B w0 n ρ T S a w) {fn : Func} {rs : List RV} {vs : List AV} (hc : cRes P fn.results.toList = some rs) (he : evRes T S rs = some vs) :
    ∃ c, (results fn a.tmps).run P w = .ok c w ∧ VR ρ (oneOf vs) c := by
  obtain ⟨cs, h1, h2, h3⟩ := res_sound h hc he
  have hm : (fn.results.mapM (resOf a.tmps)).run P w = .ok cs.toArray w := by
    have := run_results_list (resOf a.tmps) fn.results.toList cs w h3 h2.symm
    rw [Array.mapM_eq_mapM_toList]
    have hb := Sem.run_bind (P := P) (w := w) (fn.results.toList.mapM (resOf a.tmps)) (fun l => (pure l.toArray : Sem (Array Value)))
    rw [this] at hb
    simpa using hb
  have hr : (results fn a.tmps).run P w = .ok (if h : cs.toArray.size = 1 then cs.toArray[0] else .tuple cs.toArray) w := by
    have : results fn a.tmps = (do let vs ← fn.results.mapM (resOf a.tmps); pure (if h : vs.size = 1 then vs[0] else .tuple vs)) := by
      unfold results
      congr 1
    rw [this]
    simp only [Sem.run_bind, hm, Result.andThen_ok, Sem.run_pure]
  refine ⟨_, hr, ?_⟩
  cases h1 with
  | nil => exact .tuple .nil
  | cons hv ht => cases ht with
    | nil => exact hv
    | cons hv2 ht2 => exact .tuple (.cons hv (.cons hv2 ht2))
theorem setArgs_sound : ∀ {args : List AV} {cs : List Value} {i : Nat} {T : Tm} {tmps : Array Value}, VRs ρ args cs → TR ρ T tmps → (∀ k c, cs[k]? = some c → tmps[i + k]? = some c) → TR ρ (setArgs args i T) tmps
  | [], [], i, T, tmps, _, hT, _ => hT
  | v :: r, c :: cs, i, T, tmps, hv, hT, hk => by
    cases hv with
    | cons hv hr =>
      refine setArgs_sound hr (T := T.set i v) ?_ (fun k x hx => by have := hk (k + 1) x (by simpa using hx); rw [← this]; congr 1; omega)
      intro j u hj
      rw [Tr.get_set] at hj
      by_cases he : j = i
      · rw [if_pos he] at hj; cases hj; subst he; exact ⟨c, by simpa using hk 0 c rfl, hv⟩
      · rw [if_neg he] at hj; exact hT j u hj
end
/-- What is known of pure functions is right. -/
def XOk (P : Program) (X : Nat → List AV → Option AV) : Prop := ∀ f args v, X f args = some v → EntryOk P f ∧ ∀ S, Con P f args S v S
/-- Functions, their types resolved, are those of the program. -/
def APOk (P : Program) (AP : Nat → Option AFunc) : Prop := ∀ f af, AP f = some af → ∃ fn, P.funcs[f]? = some fn ∧ cFunc P fn = some af
theorem evF_sound {P : Program} (hm : P.follows .mixedOrders = true) {X : Nat → List AV → Option AV} {AP : Nat → Option AFunc} (hX : XOk P X) (hAP : APOk P AP) : ∀ k, CallOk P (evF X AP k) := by
  intro k
  induction k with
  | zero => intro f args S v S' he; cases he
  | succ k ih =>
    intro f args S v S' he
    unfold evF at he
    cases hx : X f args with
    | some u =>
      rw [hx] at he
      cases he
      exact ⟨(hX f args _ hx).1, (hX f args _ hx).2 S⟩
    | none =>
      rw [hx] at he
      simp only [Option.bind_eq_some_iff] at he
      obtain ⟨af, haf, he⟩ := he
      obtain ⟨fn, hfn, hcf⟩ := hAP f af haf
      unfold cFunc at hcf
      cases hname : fn.name == "runtime.NumGoroutine" with
      | true => rw [hname] at hcf; cases hcf
      | false =>
      rw [hname, cond_false] at hcf
      simp only [Option.bind_eq_some_iff, Option.map_eq_some_iff] at hcf
      obtain ⟨c, hbody, ac, hac, rs, hrs, rfl⟩ := hcf
      refine ⟨⟨fn, hfn, by rw [hbody]; rfl, hname⟩, ?_⟩
      cases hb : Nat.ble args.length fn.ntmps with
      | false => rw [hb] at he; cases he
      | true =>
      rw [hb] at he
      simp only [cond_true, Option.bind_eq_some_iff] at he
      obtain ⟨⟨r, T, S1⟩, h1, h2⟩ := he
      have hle := Nat.le_of_ble_eq_true hb
      intro B w0 ρ w cs hS hv
      have hlen := hv.length
      have hrel : Rel B w0 fn.ntmps ρ (setArgs args 0 .lf) S { tmps := cs.toArray ++ Array.replicate (fn.ntmps - cs.toArray.size) undef, defers := [] } w := by
        refine ⟨setArgs_sound hv (fun i v h => by cases h) (fun k c hk => ?_), by simp; omega, rfl, hS⟩
        have hkl : k < cs.length := (List.getElem?_eq_some_iff.1 hk).1
        rw [Nat.zero_add, Array.getElem?_append_left (by simpa using hkl)]
        simpa using hk
      refine calls_of_wp hfn hbody (code_sound ih hm k c ac hac _ _ r T S1 h1 ρ _ w hrel _ fun ρ' a' w' hle' hr' => ?_)
      cases r with
      | exit id => cases h2
      | normal =>
        simp only [fin, Option.map_eq_some_iff, Prod.mk.injEq] at h2
        obtain ⟨l, hl, rfl, rfl⟩ := h2
        obtain ⟨c, hrun, hvc⟩ := results_sound hr' hrs hl
        exact ⟨hr'.df, c, hrun, ρ', c, hle', rfl, hvc, hr'.sim⟩
      | ret =>
        simp only [fin, Option.map_eq_some_iff, Prod.mk.injEq] at h2
        obtain ⟨l, hl, rfl, rfl⟩ := h2
        obtain ⟨c, hrun, hvc⟩ := results_sound hr' hrs hl
        exact ⟨hr'.df, c, hrun, ρ', c, hle', rfl, hvc, hr'.sim⟩

/-! ### Pure calls -/
/-- What a call of no places comes to in the state of no object, it comes to everywhere. -/
theorem con_pure {P : Program} {f : Nat} {args : List AV} {v : AV} {S1 : St} (ha : AV.pures args = true) (hv : v.pure = true) (h : Con P f args S0 v S1) (S : St) : Con P f args S v S := by
  intro B w0 ρ w cs hS hcs
  refine Calls.mono (h w.heap.size w ρ0 w cs (sim0 w) (VRs.any ha hcs)) ?_
  rintro e w' ⟨ρ', c, _, rfl, h2, h3⟩
  exact ⟨ρ, c, Rho.le_refl ρ, rfl, VR.any hv h2, hS.world h3.below⟩
end Go.Proofs.YtajoogahcgbohaaGreatA
