/- Closed runs in parts: calls that were reckoned ahead, states cut down to what is still looked at. -/
import Derived.Test.YtajoogahcgbohaaGreatAeK2
set_option linter.unusedVariables false
set_option linter.unusedSimpArgs false
namespace Go.Proofs.YtajoogahcgbohaaGreatA
open Go.RowKit

/-! ### The same -/
noncomputable def eqI (a b : Int) : Bool := eqK a b
theorem eqI_eq {a b : Int} (h : eqI a b = true) : a = b := by unfold eqI at h; rw [eqK_eq] at h; exact of_decide_eq_true h
def eqO {α : Type} (f : α → α → Bool) : Option α → Option α → Bool
  | none, none => true
  | some a, some b => f a b
  | _, _ => false
theorem eqO_eq {α : Type} {f : α → α → Bool} (hf : ∀ {a b}, f a b = true → a = b) {a b : Option α} (h : eqO f a b = true) : a = b := by
  cases a <;> cases b <;> simp only [eqO] at h <;> first | rfl | (rw [hf h]) | cases h
def eqP (a b : Pl) : Bool := Nat.beq a.o b.o && Nat.beq a.v b.v && Nat.beq a.i b.i && Nat.beq a.n b.n
theorem eqP_eq {a b : Pl} (h : eqP a b = true) : a = b := by
  obtain ⟨a1, a2, a3, a4⟩ := a
  obtain ⟨b1, b2, b3, b4⟩ := b
  simp only [eqP, Bool.and_eq_true, Nat.beq_eq] at h
  obtain ⟨⟨⟨rfl, rfl⟩, rfl⟩, rfl⟩ := h
  rfl
def eqT (a b : Nat × Nat × Nat) : Bool := Nat.beq a.1 b.1 && Nat.beq a.2.1 b.2.1 && Nat.beq a.2.2 b.2.2
theorem eqT_eq {a b : Nat × Nat × Nat} (h : eqT a b = true) : a = b := by
  obtain ⟨a1, a2, a3⟩ := a
  obtain ⟨b1, b2, b3⟩ := b
  simp only [eqT, Bool.and_eq_true, Nat.beq_eq] at h
  obtain ⟨⟨rfl, rfl⟩, rfl⟩ := h
  rfl
noncomputable def eqKd (a b : IntKind) : Bool := Nat.beq (kindN a) (kindN b)
mutual
noncomputable def eqV : AV → AV → Bool
  | .int k a, .int k' b => eqKd k k' && eqI a b
  | .bool a, .bool b => a == b
  | .str a, .str b => eqStr a b
  | .ptr a, .ptr b => eqO eqP a b
  | .slice a l e c, .slice a' l' e' c' => eqO eqT a a' && Nat.beq l l' && Nat.beq e e' && eqO Nat.beq c c'
  | .nilFunc, .nilFunc => true
  | .nilIface, .nilIface => true
  | .func f l, .func g m => Nat.beq f g && eqVs l m
  | .agg l, .agg m => eqVs l m
  | .tuple l, .tuple m => eqVs l m
  | .iface t v, .iface u x => Nat.beq t u && eqV v x
  | _, _ => false
noncomputable def eqVs : List AV → List AV → Bool
  | [], [] => true
  | a :: r, b :: s => eqV a b && eqVs r s
  | _, _ => false
end
mutual
theorem eqV_eq : ∀ {a b : AV}, eqV a b = true → a = b
  | .int k a, .int k' b, h => by
    simp only [eqV, Bool.and_eq_true, eqKd] at h
    rw [kindN_eq.1 h.1, eqI_eq h.2]
  | .bool a, .bool b, h => by simp only [eqV, beq_iff_eq] at h; rw [h]
  | .str a, .str b, h => by simp only [eqV] at h; rw [eqStr_eq h]
  | .ptr a, .ptr b, h => by simp only [eqV] at h; rw [eqO_eq eqP_eq h]
  | .slice a l e c, .slice a' l' e' c', h => by
    simp only [eqV, Bool.and_eq_true, Nat.beq_eq] at h
    rw [eqO_eq eqT_eq h.1.1.1, h.1.1.2, h.1.2, eqO_eq Nat.eq_of_beq_eq_true h.2]
  | .nilFunc, .nilFunc, _ => rfl
  | .nilIface, .nilIface, _ => rfl
  | .func f l, .func g m, h => by
    simp only [eqV, Bool.and_eq_true, Nat.beq_eq] at h
    rw [h.1, eqVs_eq h.2]
  | .agg l, .agg m, h => by simp only [eqV] at h; rw [eqVs_eq h]
  | .tuple l, .tuple m, h => by simp only [eqV] at h; rw [eqVs_eq h]
  | .iface t v, .iface u x, h => by
    simp only [eqV, Bool.and_eq_true, Nat.beq_eq] at h
    rw [h.1, eqV_eq h.2]
theorem eqVs_eq : ∀ {a b : List AV}, eqVs a b = true → a = b
  | [], [], _ => rfl
  | a :: r, b :: s, h => by
    simp only [eqVs, Bool.and_eq_true] at h
    rw [eqV_eq h.1, eqVs_eq h.2]
end
noncomputable def eqAO : AO → AO → Bool
  | .cells c v m o, .cells c' v' m' o' => eqVs c c' && Nat.beq v v' && Nat.beq m m' && (o == o')
  | .fork c v m g, .fork c' v' m' g' => eqVs c c' && Nat.beq v v' && Nat.beq m m' && Nat.beq g g'
  | _, _ => false
theorem eqAO_eq {a b : AO} (h : eqAO a b = true) : a = b := by
  cases a <;> cases b <;> simp only [eqAO, Bool.and_eq_true, Nat.beq_eq, beq_iff_eq, Bool.false_eq_true] at h
  · rw [eqVs_eq h.1.1.1, h.1.1.2, h.1.2, h.2]
  · rw [eqVs_eq h.1.1.1, h.1.1.2, h.1.2, h.2]
/-! ### States cut down -/
abbrev Obs := List (Nat × AO)
noncomputable def stOf (l : Obs) (n : Nat) : St := ⟨n, List.rec (motive := fun _ => Tr AO) .lf (fun p _ ih => ih.setK p.1 p.2) l⟩
theorem stOf_get {n : Nat} {o : Nat} {x : AO} : ∀ {l : Obs}, (stOf l n).get o = some x → (o, x) ∈ l
  | [], h => by cases h
  | p :: r, h => by
    have e : (stOf (p :: r) n).get o = ((stOf r n).objs.set p.1 p.2).get o := by
      show (((stOf r n).objs.setK p.1 p.2).get o) = _
      rw [Tr.setK_eq]
    rw [e, Tr.get_set] at h
    by_cases hq : o = p.1
    · rw [if_pos hq] at h; cases h; rw [hq]; exact List.mem_cons_self
    · rw [if_neg hq] at h; exact List.mem_cons_of_mem _ (stOf_get h)
noncomputable def subS (l : Obs) (S : St) : Bool := List.rec (motive := fun _ => Bool) true (fun p _ ih => match S.objs.getK p.1 with
  | some x => eqAO x p.2 && ih
  | none => false) l
theorem subS_mem {S : St} {o : Nat} {x : AO} : ∀ {l : Obs}, subS l S = true → (o, x) ∈ l → S.get o = some x
  | [], _, h => by cases h
  | p :: r, hs, h => by
    have e : subS (p :: r) S = (match S.objs.getK p.1 with | some x => eqAO x p.2 && subS r S | none => false) := rfl
    rw [e, Tr.getK_eq] at hs
    cases hg : S.objs.get p.1 with
    | none => rw [hg] at hs; cases hs
    | some y =>
      rw [hg] at hs
      simp only [Bool.and_eq_true] at hs
      rcases List.mem_cons.1 h with h | h
      · cases h
        show S.objs.get o = _
        rw [hg, eqAO_eq hs.1]
      · exact subS_mem hs.2 h
theorem Sim.cut {B : Nat} {w0 : Base} {ρ : Rho} {S : St} {w : World} (h : Sim B w0 ρ S w) {l : Obs} (hl : subS l S = true) : Sim B w0 ρ (stOf l S.next) w where
  below := h.below
  base := h.base
  fresh := h.fresh
  dom o x e := h.dom o x (subS_mem hl (stOf_get e))
  heap := h.heap
  obj o x e := h.obj o x (subS_mem hl (stOf_get e))
  apart := h.apart
  gh := h.gh
/-! ### Calls that were reckoned ahead -/
structure Ent where
  f : Nat
  args : List AV
  i : Obs
  n : Nat
  v : AV
  o : Obs
  m : Nat
def EntOk (P : Program) (e : Ent) : Prop := EntryOk P e.f ∧ Con P e.f e.args (stOf e.i e.n) e.v (stOf e.o e.m)
noncomputable def Ent.fits (e : Ent) (f : Nat) (args : List AV) (S : St) : Bool := Nat.beq e.f f && Nat.beq e.n S.next && eqVs e.args args && subS e.i S
noncomputable def callM (es : List Ent) (call : Cal) : Cal := List.rec (motive := fun _ => Cal) call (fun e _ ih f args S => Bool.casesOn (motive := fun _ => Res) (e.fits f args S) (ih f args S) (some (e.v, stOf e.o e.m))) es
theorem callM_ok {P : Program} {call : Cal} (hc : CallOk P call) : ∀ {es : List Ent}, (∀ e ∈ es, EntOk P e) → CallOk P (callM es call)
  | [], _ => hc
  | e :: r, h => by
    intro f args S v S' he
    have ih := callM_ok hc (es := r) fun x hx => h x (List.mem_cons_of_mem _ hx)
    have e1 : callM (e :: r) call f args S = (Bool.casesOn (motive := fun _ => Res) (e.fits f args S) (callM r call f args S) (some (e.v, stOf e.o e.m))) := rfl
    rw [e1] at he
    cases hf : e.fits f args S with
    | false => rw [hf] at he; exact ih f args S v S' he
    | true =>
      rw [hf] at he
      cases he
      simp only [Ent.fits, Bool.and_eq_true, Nat.beq_eq] at hf
      obtain ⟨⟨⟨rfl, hn⟩, ha⟩, hs⟩ := hf
      obtain ⟨h1, h2⟩ := h e List.mem_cons_self
      refine ⟨h1, fun B w0 ρ w cs hS hv => ?_⟩
      rw [← eqVs_eq ha] at hv
      have := hS.cut hs
      rw [← hn] at this
      exact h2 B w0 ρ w cs this hv
/-- A call's body. -/
noncomputable def evBK (call : Cal) (k : Nat) (af : AFunc) (args : List AV) (S : St) : Res :=
  Bool.casesOn (motive := fun _ => Res) (Nat.ble args.length af.ntmps) none (Option.casesOn (motive := fun _ => Res) (evCK call k af.body (setArgsK args 0 .lf) S) none (fin af.results))
theorem con_step {P : Program} (hm : P.follows .mixedOrders = true) {call : Cal} (hc : CallOk P call) {AP : Nat → Option AFunc} (hAP : APOk P AP) {k f : Nat} {af : AFunc} (haf : AP f = some af) {args : List AV} {S S' : St} {v : AV}
    (he : evBK call k af args S = some (v, S')) : EntryOk P f ∧ Con P f args S v S' := by
  obtain ⟨fn, hfn, hcf⟩ := hAP f af haf
  unfold cFunc at hcf
  cases hname : fn.name == "runtime.NumGoroutine" with
  | true => rw [hname] at hcf; cases hcf
  | false =>
  rw [hname, cond_false] at hcf
  simp only [Option.bind_eq_some_iff, Option.map_eq_some_iff] at hcf
  obtain ⟨c, hbody, ac, hac, rs, hrs, rfl⟩ := hcf
  refine ⟨⟨fn, hfn, by rw [hbody]; rfl, hname⟩, ?_⟩
  unfold evBK at he
  cases hb : Nat.ble args.length fn.ntmps with
  | false => rw [hb] at he; cases he
  | true =>
  rw [hb] at he
  replace he : Option.casesOn (motive := fun _ => Res) (evCK call k ac (setArgsK args 0 .lf) S) none (fin rs) = some (v, S') := he
  rw [ob, evCK_eq, setArgsK_eq] at he
  simp only [Option.bind_eq_some_iff] at he
  obtain ⟨⟨r, T, S1⟩, h1, h2⟩ := he
  have hle := Nat.le_of_ble_eq_true hb
  intro B w0 ρ w cs hS hv
  have hlen := hv.length
  have hrel : Rel B w0 fn.ntmps ρ (setArgs args 0 .lf) S { tmps := cs.toArray ++ Array.replicate (fn.ntmps - cs.toArray.size) undef, defers := [] } w := by
    refine ⟨setArgs_sound hv (fun i v h => by cases h) (fun k c hk => ?_), by simp; omega, rfl, hS⟩
    have hkl : k < cs.length := (List.getElem?_eq_some_iff.1 hk).1
    rw [Nat.zero_add, Array.getElem?_append_left (by simpa using hkl)]
    simpa using hk
  refine calls_of_wp hfn hbody (code_sound hc hm k c ac hac _ _ r T S1 h1 ρ _ w hrel _ fun ρ' a' w' hle' hr' => ?_)
  cases r with
  | exit id => cases h2
  | normal =>
    simp only [fin, Option.map_eq_some_iff, Prod.mk.injEq] at h2
    obtain ⟨l, hl, rfl, rfl⟩ := h2
    obtain ⟨c, hrun, hvc⟩ := results_sound hr' hrs hl
    exact ⟨hr'.df, c, hrun, ρ', c, hle', rfl, hvc, hr'.sim⟩
  | ret =>
    simp only [fin, Option.map_eq_some_iff, Prod.mk.injEq] at h2
    obtain ⟨l, hl, rfl, rfl⟩ := h2
    obtain ⟨c, hrun, hvc⟩ := results_sound hr' hrs hl
    exact ⟨hr'.df, c, hrun, ρ', c, hle', rfl, hvc, hr'.sim⟩
/-- What the kernel reckons of an entry. -/
noncomputable def entChk (call : Cal) (AP : Nat → Option AFunc) (k : Nat) (e : Ent) : Bool :=
  match AP e.f with
  | some af => match evBK call k af e.args (stOf e.i e.n) with
    | some (v, S') => eqV v e.v && Nat.beq S'.next e.m && subS e.o S'
    | none => false
  | none => false
theorem ent_of {P : Program} (hm : P.follows .mixedOrders = true) {call : Cal} (hc : CallOk P call) {AP : Nat → Option AFunc} (hAP : APOk P AP) {k : Nat} {e : Ent} (h : entChk call AP k e = true) : EntOk P e := by
  unfold entChk at h
  split at h
  · rename_i af haf
    split at h
    · rename_i v S' he
      simp only [Bool.and_eq_true, Nat.beq_eq] at h
      obtain ⟨h1, h2⟩ := con_step hm hc hAP haf he
      refine ⟨h1, fun B w0 ρ w cs hS hv => (h2 B w0 ρ w cs hS hv).mono ?_⟩
      rintro x w' ⟨ρ', c, h3, h4, h5, h6⟩
      rw [eqV_eq h.1.1] at h5
      have := h6.cut h.2
      rw [h.1.2] at this
      exact ⟨ρ', c, h3, h4, h5, this⟩
    · cases h
  · cases h
end Go.Proofs.YtajoogahcgbohaaGreatA
