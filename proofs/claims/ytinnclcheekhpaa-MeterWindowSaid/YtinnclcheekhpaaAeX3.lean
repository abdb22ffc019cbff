/- An abstract evaluator, part X3: a region whose order is drawn, of operations on objects apart. -/
import Derived.Test.YtinnclcheekhpaaAeX2
set_option linter.unusedVariables false
set_option linter.unusedSimpArgs false
namespace Go.Proofs.YtinnclcheekhpaaA
open Go.RowKit

mutual
theorem VR.back {ρ1 ρ2 : Rho} (hle : ρ1.le ρ2) : ∀ {a : AV} {v v' : Value}, VR ρ1 a v → VR ρ2 a v' → VR ρ1 a v'
  | _, _, _, .int _, .int h => .int h
  | _, _, _, .bool, .bool => .bool
  | _, _, _, .float, .float => .float
  | _, _, _, .str _, .str h => .str h
  | _, _, _, .ptrNil, .ptrNil => .ptrNil
  | _, _, _, .ptr hL _ _ _, .ptr hL' h0 h1 ha => by
    have := hle _ _ _ hL
    rw [hL'] at this; cases this
    exact .ptr hL h0 h1 ha
  | _, _, _, .sliceNil, .sliceNil => .sliceNil
  | _, _, _, .slice hL _ _ _ _ _ _, .slice hL' h0 h1 h2 h3 h4 ha => by
    have := hle _ _ _ hL
    rw [hL'] at this; cases this
    exact .slice hL h0 h1 h2 h3 h4 ha
  | _, _, _, .func h, .func h' => .func (VRs.back hle h h')
  | _, _, _, .nilFunc, .nilFunc => .nilFunc
  | _, _, _, .iface h, .iface h' => .iface (VR.back hle h h')
  | _, _, _, .nilIface, .nilIface => .nilIface
  | _, _, _, .agg h _, .agg h' q => .agg (VRs.back hle h h') q
  | _, _, _, .tuple h, .tuple h' => .tuple (VRs.back hle h h')
  | _, _, _, .map hL, .map hL' => by
    have := hle _ _ _ hL
    rw [hL'] at this; cases this
    exact .map hL
theorem VRs.back {ρ1 ρ2 : Rho} (hle : ρ1.le ρ2) : ∀ {l : List AV} {cs cs' : List Value}, VRs ρ1 l cs → VRs ρ2 l cs' → VRs ρ1 l cs'
  | _, _, _, .nil, .nil => .nil
  | _, _, _, .cons h t, .cons h' t' => .cons (VR.back hle h h') (VRs.back hle t t')
end
section
variable {B : Nat} {w0 : Base} {w w1 w2 : World} {ρ ρ1 ρ2 : Rho} {S S1 S2 : St}
theorem Sim.same (h : Sim B w0 ρ S1 w) (hn : S1.next ≤ S2.next) (hg : ∀ o, S2.get o = S1.get o) : Sim B w0 ρ S2 w :=
  ⟨h.below, h.base, fun o u L e => Nat.lt_of_lt_of_le (h.fresh o u L e) hn, fun o x e => by rw [hg] at e; exact Nat.lt_of_lt_of_le (h.dom o x e) hn, h.heap, fun o x e => by rw [hg] at e; exact h.obj o x e, h.apart, h.gh,
    fun o u L e => by rw [hg]; exact h.sup o u L e⟩
/-- The same, but for the number of what is new. -/
theorem Sim.renew {xs : List AV} {N : Nat} (h1 : Sim B w0 ρ1 S w1) (h2 : Sim B w0 ρ2 (S.alloc (.cells xs 0 0 true)) w2) (hle : ρ1.le ρ2) (hN : N < S.next) (hf : S.get N = none) (hp : AV.pures xs = true) :
    ∃ ρ3, ρ1.le ρ3 ∧ (∀ u, ρ3 N u = ρ2 S.next u) ∧ Sim B w0 ρ3 (S.put N (.cells xs 0 0 true)) w2 := by
  have hnone : ∀ u, ρ1 N u = none := fun u => by
    cases hq : ρ1 N u with
    | none => rfl
    | some L => obtain ⟨x, hx⟩ := h1.sup _ _ _ hq; rw [hf] at hx; cases hx
  have hlt : ∀ o u L, ρ1 o u = some L → o < S.next := h1.fresh
  have go : ∀ (o u : Nat) (L : Loc), (if o = N then ρ2 S.next u else ρ1 o u) = some L → ρ2 (if o = N then S.next else o) u = some L := by
    intro o u L e
    by_cases ho : o = N
    · simp only [ho, if_true] at e ⊢; exact e
    · simp only [ho, if_false] at e ⊢; exact hle _ _ _ e
  have hle3 : ρ1.le (fun o u => if o = N then ρ2 S.next u else ρ1 o u) := by
    intro o u L e
    by_cases ho : o = N
    · rw [ho, hnone] at e; cases e
    · simp only [if_neg ho]; exact e
  refine ⟨fun o u => if o = N then ρ2 S.next u else ρ1 o u, hle3, fun u => if_pos rfl, ?_⟩
  refine ⟨h2.below, h2.base, ?_, ?_, fun o u L e => h2.heap _ u L (go o u L e), ?_, ?_, ?_, ?_⟩
  · intro o u L e
    by_cases ho : o = N
    · rw [ho]; exact hN
    · simp only [if_neg ho] at e; exact hlt o u L e
  · intro o x e
    rw [St.get_put] at e
    by_cases ho : o = N
    · rw [ho]; exact hN
    · rw [if_neg ho] at e; exact h1.dom o x e
  · intro o x e
    rw [St.get_put] at e
    by_cases ho : o = N
    · rw [if_pos ho] at e
      cases e
      subst ho
      have hc : CellsAt B ρ2 w2 S.next xs 0 0 true := h2.obj S.next (.cells xs 0 0 true) (by rw [St.get_alloc, if_pos rfl])
      have e2 : ∀ u, (if o = o then ρ2 S.next u else ρ1 o u) = ρ2 S.next u := fun u => if_pos rfl
      refine (show CellsAt B _ w2 o xs 0 0 true from ⟨?_, ?_, ?_, ?_, ?_, hc.atoms⟩)
      · intro u L e; rw [e2] at e; exact hc.vers u L e
      · intro L e; rw [e2] at e; exact hc.last L e
      · intro u L e hm
        rw [e2] at e
        obtain ⟨g1, g2, cs, t, fz, g3, g4, g5, g6⟩ := hc.mem u L e hm
        refine ⟨g1, g2, cs, t, fz, g3, g4, fun i hi hi' => ?_, g6⟩
        obtain ⟨a, v, ha, hv, hvr⟩ := g5 i hi hi'
        exact ⟨a, v, ha, hv, VR.any (pures_get hp ha) hvr⟩
      · intro u L e; rw [e2] at e; exact hc.side u L e
      · intro u L u' L' e e'; rw [e2] at e e'; exact hc.align u L u' L' e e'
    · rw [if_neg ho] at e
      have e1 := h1.obj o x e
      have e3 := h2.obj o x (by rw [St.get_alloc, if_neg (Nat.ne_of_lt (h1.dom o x e))]; exact e)
      have e2 : ∀ u, (if o = N then ρ2 S.next u else ρ1 o u) = ρ1 o u := fun u => if_neg ho
      cases x with
      | cells c ver minv own =>
        have c1 : CellsAt B ρ1 w1 o c ver minv own := e1
        have c2 : CellsAt B ρ2 w2 o c ver minv own := e3
        refine (show CellsAt B _ w2 o c ver minv own from ⟨?_, ?_, ?_, ?_, ?_, c1.atoms⟩)
        · intro u L e; rw [e2] at e; exact c1.vers u L e
        · intro L e; rw [e2] at e; exact c1.last L e
        · intro u L e hm
          rw [e2] at e
          obtain ⟨_, _, _, _, _, _, _, k5, _⟩ := c1.mem u L e hm
          obtain ⟨g1, g2, cs, t, fz, g3, g4, g5, g6⟩ := c2.mem u L (hle _ _ _ e) hm
          refine ⟨g1, g2, cs, t, fz, g3, g4, fun i hi hi' => ?_, g6⟩
          obtain ⟨a, v, ha, hv, hvr⟩ := g5 i hi hi'
          obtain ⟨a', v', ha', _, hvr'⟩ := k5 i hi hi'
          rw [ha] at ha'; cases ha'
          exact ⟨a, v, ha, hv, VR.mono hle3 (VR.back hle hvr' hvr)⟩
        · intro u L e; rw [e2] at e; exact c1.side u L e
        · intro u L u' L' e e'; rw [e2] at e e'; exact c1.align u L u' L' e e'
      | fork c ver minv g =>
        have c1 : ForkAt B ρ1 w1 o c ver minv g := e1
        have c2 : ForkAt B ρ2 w2 o c ver minv g := e3
        refine (show ForkAt B _ w2 o c ver minv g from ⟨?_, ?_, ?_, ?_, ?_, c1.atoms⟩)
        · intro u L e; rw [e2] at e; exact c1.vers u L e
        · intro L e; rw [e2] at e; exact c1.last L e
        · intro u L e hm
          rw [e2] at e
          obtain ⟨_, _, _, _, _, _, k5, _⟩ := c1.mem u L e hm
          obtain ⟨g2, cs, t, fz, g3, g4, g5, g6⟩ := c2.mem u L (hle _ _ _ e) hm
          refine ⟨g2, cs, t, fz, g3, g4, fun i hi hi' hd => ?_, g6⟩
          obtain ⟨a, v, ha, hv, hvr⟩ := g5 i hi hi' hd
          obtain ⟨a', v', ha', _, hvr'⟩ := k5 i hi hi' hd
          rw [ha] at ha'; cases ha'
          exact ⟨a, v, ha, hv, VR.mono hle3 (VR.back hle hvr' hvr)⟩
        · intro u L e; rw [e2] at e; exact c1.side u L e
        · intro u L u' L' e e'; rw [e2] at e e'; exact c1.align u L u' L' e e'
      | iter s pos =>
        have c1 : IterAt B ρ1 w1 o s pos := e1
        have c2 : IterAt B ρ2 w2 o s pos := e3
        refine (show IterAt B _ w2 o s pos from ⟨fun u L e => ?_, fun u L e => ?_, fun u L u' L' e e' => ?_⟩)
        · rw [e2] at e; exact c1.side u L e
        · rw [e2] at e; exact c2.mem u L (hle _ _ _ e)
        · rw [e2] at e e'; exact c1.uniq u L u' L' e e'
      | map kk kv l c =>
        have c1 : MapAt B ρ1 w1 o kk kv l c := e1
        have c2 : MapAt B ρ2 w2 o kk kv l c := e3
        refine (show MapAt B _ w2 o kk kv l c from ⟨fun u L e => ?_, fun u L e => ?_, fun u L u' L' e e' => ?_, c1.wf⟩)
        · rw [e2] at e; exact c1.side u L e
        · rw [e2] at e; exact c2.mem u L (hle _ _ _ e)
        · rw [e2] at e e'; exact c1.uniq u L u' L' e e'
  · intro o u L o' u' L' e e' hne hB
    refine h2.apart _ u L _ u' L' (go o u L e) (go o' u' L' e') ?_ hB
    by_cases ho : o = N
    · have ho' : ¬ o' = N := fun k => hne (ho.trans k.symm)
      rw [if_pos ho, if_neg ho']
      simp only [if_neg ho'] at e'
      have := hlt _ _ _ e'
      omega
    · rw [if_neg ho]
      simp only [if_neg ho] at e
      have := hlt _ _ _ e
      by_cases ho' : o' = N
      · rw [if_pos ho']; omega
      · rw [if_neg ho']; exact hne
  · intro g y hg
    obtain ⟨k1, k2, k3⟩ := h2.gh g y hg
    exact ⟨k1, k2, fun o u L e => k3 _ u L (go o u L e)⟩
  · intro o u L e
    rw [St.get_put]
    by_cases ho : o = N
    · exact ⟨_, if_pos ho⟩
    · rw [if_neg ho]; simp only [if_neg ho] at e; exact h1.sup o u L e
end

/-! ### What an operation hangs on -/
/-- The operations that may stand in such a region. -/
def lone (o : AOper) : Bool :=
  match o.op with
  | .append .. => o.guard.isNone
  | .load1 _ | .loadN _ _ => true
  | op => (op.birth && o.guard.isNone) || (!op.heavy && !op.reads)
def effO (o : AOper) (v : AV) : Option Nat := bif o.op.heavy then objOf v else none
theorem rd_at {S S2 : St} {o : Nat} (h : S2.get o = S.get o) (v i n : Nat) : S2.rd o v i n = S.rd o v i n := by unfold St.rd; rw [h]
/-- What an operation comes to in a state whose objects that it looks at are the same. -/
def Local (o : AOper) (T : Tm) (call : Nat → List AV → St → Option (AV × St)) (S S1 : St) (v : AV) : Prop :=
  (S1.next = S.next ∧ (∀ q, effO o v = some q → q ∈ fpOf o.op T ∧ (S1.get q ≠ S.get q → S.get q ≠ none)) ∧
    ∀ S2, (∀ q ∈ fpOf o.op T, S2.get q = S.get q) → ∃ S2', evOper call o T S2 = some (v, S2') ∧ S2'.next = S2.next ∧ ∀ q, S2'.get q = if effO o v = some q then S1.get q else S2.get q) ∨
  (∃ xs, S1 = S.alloc (.cells xs 0 0 true) ∧ (v = .ptr (some ⟨S.next, 0, 0, xs.length⟩) ∨ ∃ len e, v = .slice (some (S.next, 0, 0)) len e none) ∧ o.op.heavy = true ∧
    ∀ S2, (∀ q ∈ fpOf o.op T, S2.get q = S.get q) → evOper call o T S2 = some (reN S2.next v, S2.alloc (.cells xs 0 0 true)))
theorem append_local {esz bytes n : Nat} {S S1 : St} {a v : AV} {xs : List AV} (he : aAppend esz bytes S a n xs = some (v, S1)) :
    (S1.next = S.next ∧ (∀ q, objOf v = some q → q ∈ oL (some a) ∧ (S1.get q ≠ S.get q → S.get q ≠ none)) ∧
      ∀ S2 : St, (∀ q ∈ oL (some a), S2.get q = S.get q) → ∃ S2', aAppend esz bytes S2 a n xs = some (v, S2') ∧ S2'.next = S2.next ∧ ∀ q, S2'.get q = if objOf v = some q then S1.get q else S2.get q) ∨
    (∃ ys, S1 = S.alloc (.cells ys 0 0 true) ∧ (∃ len e, v = .slice (some (S.next, 0, 0)) len e none) ∧
      ∀ S2 : St, (∀ q ∈ oL (some a), S2.get q = S.get q) → aAppend esz bytes S2 a n xs = some (reN S2.next v, S2.alloc (.cells ys 0 0 true))) := by
  have keep : ∀ (o i j : Nat) (len e : Nat) (clip : Option Nat), a = .slice (some (o, i, j)) len e clip → v = a → S1 = S → (∀ S2 : St, aAppend esz bytes S2 a n xs = some (a, S2)) →
      (S1.next = S.next ∧ (∀ q, objOf v = some q → q ∈ oL (some a) ∧ (S1.get q ≠ S.get q → S.get q ≠ none)) ∧
      ∀ S2 : St, (∀ q ∈ oL (some a), S2.get q = S.get q) → ∃ S2', aAppend esz bytes S2 a n xs = some (v, S2') ∧ S2'.next = S2.next ∧ ∀ q, S2'.get q = if objOf v = some q then S1.get q else S2.get q) := by
    rintro o i j len e clip rfl rfl rfl hS
    refine ⟨rfl, fun q hq => ?_, fun S2 h2 => ⟨S2, hS S2, rfl, fun q => ?_⟩⟩
    · simp only [objOf, Option.some.injEq] at hq; subst hq
      exact ⟨by simp [oL, objOf], fun h => absurd rfl h⟩
    · by_cases hq : objOf (.slice (some (o, i, j)) len e clip) = some q
      · rw [if_pos hq]
        simp only [objOf, Option.some.injEq] at hq; subst hq
        exact h2 o (by simp [oL, objOf])
      · rw [if_neg hq]
  cases a with
  | slice p len e clip =>
    cases p with
    | none =>
      simp only [aAppend] at he ⊢
      by_cases hn : n = 0
      · simp only [hn, if_true, Option.some.injEq, Prod.mk.injEq] at he ⊢
        obtain ⟨rfl, rfl⟩ := he
        exact .inl ⟨rfl, fun q hq => (by simp [objOf] at hq), fun S2 _ => ⟨S2, ⟨rfl, rfl⟩, rfl, fun q => by simp [objOf]⟩⟩
      · simp only [hn, if_false] at he ⊢
        split at he
        · rename_i hb
          simp only [hb, if_true, newSl, Option.some.injEq, Prod.mk.injEq] at he ⊢
          obtain ⟨rfl, rfl⟩ := he
          exact .inr ⟨xs, rfl, ⟨_, _, rfl⟩, fun S2 _ => ⟨rfl, rfl⟩⟩
        · cases he
    | some p =>
      obtain ⟨o, i, j⟩ := p
      by_cases he0 : e ≠ esz
      · simp only [aAppend, if_pos he0] at he; cases he
      by_cases hn : n = 0
      · have e1 : ∀ S2 : St, aAppend esz bytes S2 (.slice (some (o, i, j)) len e clip) n xs = some (.slice (some (o, i, j)) len e clip, S2) := fun S2 => by simp only [aAppend, if_neg he0, if_pos hn]
        rw [e1 S] at he
        cases he
        exact .inl (keep o i j len e clip rfl rfl rfl e1)
      by_cases hb : ¬ ((len + n) + (len + n) / 4 + 256) * bytes ≤ 281474976710656
      · simp only [aAppend, if_neg he0, if_neg hn, if_pos hb] at he; cases he
      cases clip with
      | some c =>
        simp only [aAppend, if_neg he0, if_neg hn, if_neg hb] at he ⊢
        split at he
        · rename_i hc
          simp only [if_pos hc, Option.map_eq_some_iff, newSl, Prod.mk.injEq] at he ⊢
          obtain ⟨l, hl, rfl, rfl⟩ := he
          refine .inr ⟨_, rfl, ⟨_, _, rfl⟩, fun S2 h2 => ⟨l, ?_, rfl, rfl⟩⟩
          rw [rd_at (h2 o (by simp [oL, objOf]))]; exact hl
        · cases he
      | none =>
        left
        have go : ∀ (x : AO) (y : AO) (v' : AV), S.get o = some x → objOf v' = some o → v = v' → S1 = S.put o y → (∀ S2 : St, S2.get o = some x → aAppend esz bytes S2 (.slice (some (o, i, j)) len e none) n xs = some (v', S2.put o y)) →
            (S1.next = S.next ∧ (∀ q, objOf v = some q → q ∈ oL (some (AV.slice (some (o, i, j)) len e none)) ∧ (S1.get q ≠ S.get q → S.get q ≠ none)) ∧
            ∀ S2 : St, (∀ q ∈ oL (some (AV.slice (some (o, i, j)) len e none)), S2.get q = S.get q) → ∃ S2', aAppend esz bytes S2 (.slice (some (o, i, j)) len e none) n xs = some (v, S2') ∧ S2'.next = S2.next ∧ ∀ q, S2'.get q = if objOf v = some q then S1.get q else S2.get q) := by
          rintro x y v' hx hv rfl rfl hS
          refine ⟨rfl, fun q hq => ?_, fun S2 h2 => ⟨_, hS S2 ?_, rfl, fun q => ?_⟩⟩
          · rw [hv] at hq; cases hq
            exact ⟨by simp [oL, objOf], fun _ => by rw [hx]; simp⟩
          · rw [h2 o (by simp [oL, objOf])]; exact hx
          · rw [hv]
            by_cases hq : o = q
            · subst hq; rw [if_pos rfl, St.get_put, St.get_put, if_pos rfl, if_pos rfl]
            · rw [if_neg (by simpa using hq), St.get_put, if_neg (Ne.symm hq)]
        simp only [aAppend, if_neg he0, if_neg hn, if_neg hb] at he
        split at he
        · rename_i c ver minv hg
          split at he
          · rename_i hc
            simp only [Option.some.injEq, Prod.mk.injEq] at he
            exact go _ _ _ hg rfl he.1.symm he.2.symm fun S2 h2 => by simp only [aAppend, if_neg he0, if_neg hn, if_neg hb, h2, if_pos hc]
          · rename_i hc
            split at he
            · rename_i hc2
              simp only [Option.some.injEq, Prod.mk.injEq] at he
              exact go _ _ _ hg rfl he.1.symm he.2.symm fun S2 h2 => by simp only [aAppend, if_neg he0, if_neg hn, if_neg hb, h2, if_neg hc, if_pos hc2]
            · cases he
        · rename_i c ver minv g hg
          split at he
          · rename_i hc
            simp only [Option.some.injEq, Prod.mk.injEq] at he
            exact go _ _ _ hg rfl he.1.symm he.2.symm fun S2 h2 => by simp only [aAppend, if_neg he0, if_neg hn, if_neg hb, h2, if_pos hc]
          · cases he
        · cases he
  | _ => simp [aAppend] at he
section
variable {call : Nat → List AV → St → Option (AV × St)}
theorem local_gen {o : AOper} (h : ((o.op.birth && o.guard.isNone) || (!o.op.heavy && !o.op.reads)) = true) {T : Tm} {S S1 : St} {v : AV} (he : evOper call o T S = some (v, S1)) : Local o T call S S1 v := by
  simp only [Bool.or_eq_true, Bool.and_eq_true, Bool.not_eq_true'] at h
  rcases h with ⟨hb, hg⟩ | ⟨hh, hr⟩
  · obtain ⟨x, h1, h2, h3⟩ := birth_ev hb (by simpa using hg) he
    exact .inr ⟨x, h1, h2, birth_heavy hb, fun S2 _ => h3 call S2⟩
  · have hS := oper_keeps hh he
    have hn : effO o v = none := by unfold effO; rw [hh]; rfl
    subst hS
    refine .inl ⟨rfl, fun q hq => (by rw [hn] at hq; cases hq), fun S2 _ => ⟨S2, oper_light hh hr he S2, rfl, fun q => by rw [hn]; simp⟩⟩
theorem local_of {o : AOper} (hl : lone o = true) {T : Tm} {S S1 : St} {v : AV} (he : evOper call o T S = some (v, S1)) : Local o T call S S1 v := by
  obtain ⟨dst, guard, op⟩ := o
  have ld : ∀ (a : XO), op.heavy = false → fpOf op T = oL (a.ev T) → (∀ S2 p, a.ev T = some (.ptr (some p)) → S2.get p.o = S.get p.o → (evOp op T S2).map Prod.fst = (evOp op T S).map Prod.fst) → (∀ S2, (∀ p, a.ev T ≠ some (.ptr (some p))) → evOp op T S2 = none) → Local ⟨dst, guard, op⟩ T call S S1 v := by
    intro a hh hfp h1 h2
    have hS := oper_keeps (o := ⟨dst, guard, op⟩) hh he
    have hn : effO ⟨dst, guard, op⟩ v = none := by unfold effO; rw [hh]; rfl
    subst hS
    refine .inl ⟨rfl, fun q hq => (by rw [hn] at hq; cases hq), fun S2 hS2 => ⟨S2, ?_, rfl, fun q => by rw [hn]; simp⟩⟩
    simp only [evOper, Option.bind_eq_some_iff] at he ⊢
    obtain ⟨w, hw, he⟩ := he
    refine ⟨w, hw, ?_⟩
    cases w with
    | false => cases he; rfl
    | true =>
      simp only [cond_true, evAny, calls_heavy hh, cond_false] at he ⊢
      by_cases hp : ∃ p, a.ev T = some (.ptr (some p))
      · obtain ⟨p, hp⟩ := hp
        have := h1 S2 p hp (hS2 p.o (by simp only [hfp, hp, oL, objOf, List.mem_singleton]))
        rw [he, Option.map_some, Option.map_eq_some_iff] at this
        obtain ⟨⟨v2, S3⟩, h3, h4⟩ := this
        rw [h3]
        have := evOp_keeps hh h3
        simp only at h4
        rw [h4, this]
      · rw [h2 S1 (fun p h => hp ⟨p, h⟩)] at he; cases he
  cases op
  case append esz bytes s x =>
    have hg : guard = none := by simpa [lone] using hl
    subst hg
    simp only [evOper, wanted, Option.bind_some, cond_true, evAny, AOp.calls, cond_false, evOp, Option.bind_eq_some_iff] at he
    obtain ⟨a, ha, xv, hx, he⟩ := he
    have main : ∀ (n : Nat) (xs : List AV), aAppend esz bytes S a n xs = some (v, S1) → (∀ S2 : St, (∀ q ∈ oL (some xv), S2.get q = S.get q) → evOper call ⟨dst, none, .append esz bytes s x⟩ T S2 = aAppend esz bytes S2 a n xs) → Local ⟨dst, none, .append esz bytes s x⟩ T call S S1 v := by
      intro n xs hap hev
      have hfp : fpOf (.append esz bytes s x) T = oL (some a) ++ oL (some xv) := by simp only [fpOf, ha, hx]
      rcases append_local hap with ⟨h1, h2, h3⟩ | ⟨ys, h1, h2, h3⟩
      · refine .inl ⟨h1, fun q hq => ⟨?_, (h2 q hq).2⟩, fun S2 hS2 => ?_⟩
        · show q ∈ fpOf (.append esz bytes s x) T
          rw [hfp]; exact List.mem_append_left _ (h2 q hq).1
        · obtain ⟨S2', k1, k2, k3⟩ := h3 S2 fun q hq => hS2 q (by show q ∈ fpOf (.append esz bytes s x) T; rw [hfp]; exact List.mem_append_left _ hq)
          refine ⟨S2', ?_, k2, k3⟩
          rw [hev S2 fun q hq => hS2 q (by show q ∈ fpOf (.append esz bytes s x) T; rw [hfp]; exact List.mem_append_right _ hq)]
          exact k1
      · refine .inr ⟨ys, h1, .inr h2, rfl, fun S2 hS2 => ?_⟩
        rw [hev S2 fun q hq => hS2 q (by show q ∈ fpOf (.append esz bytes s x) T; rw [hfp]; exact List.mem_append_right _ hq)]
        exact h3 S2 fun q hq => hS2 q (by show q ∈ fpOf (.append esz bytes s x) T; rw [hfp]; exact List.mem_append_left _ hq)
    split at he
    · refine main 0 [] he fun S2 _ => ?_
      simp only [evOper, wanted, Option.bind_some, cond_true, evAny, AOp.calls, cond_false, evOp, ha, hx]
    · rename_i o i j len e clip
      by_cases hee : e = esz
      · simp only [if_pos hee, Option.bind_eq_some_iff] at he
        obtain ⟨l, hl, he⟩ := he
        refine main len l he fun S2 h2 => ?_
        simp only [evOper, wanted, Option.bind_some, cond_true, evAny, AOp.calls, cond_false, evOp, ha, hx, if_pos hee]
        rw [rd_at (h2 o (by simp [oL, objOf])), hl]
        rfl
      · simp only [if_neg hee] at he; cases he
    · cases he
  case load1 a =>
    refine ld a rfl rfl (fun S2 p hp hg => ?_) (fun S2 hp => ?_)
    · simp only [evOp, hp, Option.bind_some, rd_at hg]
      cases S.rd p.o p.v p.i 1 with
      | none => rfl
      | some l =>
        simp only [Option.bind_some]
        cases Nat.ble 1 p.n with
        | false => rfl
        | true => simp only [cond_true]; cases l.head? <;> rfl
    · simp only [evOp]
      cases hv : a.ev T with
      | none => rfl
      | some u =>
        cases u with
        | ptr q => cases q with
          | none => rfl
          | some q => exact absurd hv (hp q)
        | _ => rfl
  case loadN n a =>
    refine ld a rfl rfl (fun S2 p hp hg => ?_) (fun S2 hp => ?_)
    · simp only [evOp, hp, Option.bind_some, rd_at hg]
      cases Nat.ble n p.n with
      | false => rfl
      | true => simp only [cond_true]; cases S.rd p.o p.v p.i n <;> rfl
    · simp only [evOp]
      cases hv : a.ev T with
      | none => rfl
      | some u =>
        cases u with
        | ptr q => cases q with
          | none => rfl
          | some q => exact absurd hv (hp q)
        | _ => rfl
  all_goals (refine local_gen ?_ he; exact hl)
theorem local_keeps {o : AOper} {T : Tm} {S S1 : St} {v : AV} (h : Local o T call S S1 v) (he : evOper call o T S = some (v, S1)) {q : Nat} (hq : effO o v ≠ some q) : S1.get q = S.get q := by
  rcases h with ⟨_, _, h3⟩ | ⟨xs, rfl, h2, h3, _⟩
  · obtain ⟨S2', k1, _, k3⟩ := h3 S fun _ _ => rfl
    rw [he] at k1; cases k1
    have := k3 q
    rw [if_neg hq] at this
    exact this
  · have : effO o v = some S.next := by
      unfold effO; rw [h3]
      rcases h2 with rfl | ⟨_, _, rfl⟩ <;> rfl
    rw [St.get_alloc, if_neg]
    intro e; subst e; exact hq this
end

/-! ### What is looked at ahead of any run -/
def okH (bs : List Nat) (l : List AOper) : Bool :=
  (List.range l.length).all fun i => (List.range i).all fun j => match l[i]?, l[j]? with | some y, some x => !(hits x y || hits y x) || (bs.getD i 0).testBit j | _, _ => false
def planP1 (bs : List Nat) (l : List AOper) (i k : Nat) : Option (Nat × Nat) :=
  match l[k]? with
  | some y => bif y.op.heavy && !Nat.beq i k then bif Nat.blt k i then bif (bs.getD i 0).testBit k then none else some (i, k) else bif (bs.getD k 0).testBit i then none else some (i, k) else none
  | none => none
def looks (op : AOp) : Bool :=
  match op with
  | .append .. | .load1 _ | .loadN _ _ => true
  | _ => false
def planP (bs : List Nat) (l : List AOper) : Plan :=
  (List.range l.length).flatMap fun i => match l[i]? with
    | some x => bif looks x.op then (List.range l.length).filterMap (planP1 bs l i) else []
    | none => []
def cPar (ops : List Oper) (l : List AOper) : Option Plan :=
  bif lows ops 0 && okH (masks ops []) l && l.all lone then some (planP (masks ops []) l) else none
theorem okH_spec {bs : List Nat} {l : List AOper} (h : okH bs l = true) {i j : Nat} {y x : AOper} (hij : j < i) (hi : l[i]? = some y) (hj : l[j]? = some x) (hh : (hits x y || hits y x) = true) : (bs.getD i 0).testBit j = true := by
  have hlt : i < l.length := (List.getElem?_eq_some_iff.1 hi).1
  simp only [okH, List.all_eq_true, List.mem_range] at h
  have := h i hlt j hij
  rw [hi, hj] at this
  simpa [hh] using this
theorem planP_spec {bs : List Nat} {l : List AOper} {i k : Nat} {x : AOper} {p : Nat × Nat} (hi : l[i]? = some x) (hr : looks x.op = true) (hk : k < l.length) (hp : planP1 bs l i k = some p) : p ∈ planP bs l := by
  have hlt : i < l.length := (List.getElem?_eq_some_iff.1 hi).1
  simp only [planP, List.mem_flatMap, List.mem_range]
  refine ⟨i, hlt, ?_⟩
  rw [hi]
  simp only [hr, cond_true, List.mem_filterMap, List.mem_range]
  exact ⟨k, hk, hp⟩
theorem looks_fp {op : AOp} {T : Tm} {q : Nat} (h : q ∈ fpOf op T) : looks op = true := by
  cases op <;> first | rfl | (simp [fpOf] at h)

/-! ### Objects behind some of the operations -/
def effAt (tr : Tr4) (k : Nat) : Option Nat := match tr[k]? with | some e => effO e.1 e.2.2.2 | none => none
def OL (tr : Tr4) (S' S : St) (L : Nat → Bool) : Nat → Nat → Option AO
  | 0, q => S.get q
  | k + 1, q => if L k = true ∧ effAt tr k = some q then (stAt tr S' (k + 1)).get q else OL tr S' S L k q
theorem OL_congr {tr : Tr4} {S' S : St} {L L' : Nat → Bool} {q : Nat} : ∀ {j : Nat}, (∀ k, k < j → effAt tr k = some q → L k = L' k) → OL tr S' S L j q = OL tr S' S L' j q
  | 0, _ => rfl
  | j + 1, h => by
    have ih := OL_congr (tr := tr) (S' := S') (S := S) (j := j) fun k hk => h k (by omega)
    simp only [OL]
    by_cases he : effAt tr j = some q
    · rw [h j (by omega) he, ih]
    · rw [if_neg (fun k => he k.2), if_neg (fun k => he k.2), ih]
section
variable {P : Program} {B : Nat} {w0 : Base} {n : Nat} {T T' : Tm} {S S' : St} {call : Nat → List AV → St → Option (AV × St)} {ops : Array Oper} {al : List AOper} {pl : Plan}
theorem draw_soundP (hcall : CallOk P call) (hm : P.follows .mixedOrders = true) (hc : cOps P n ops ops.toList = some al) (hd : cPar ops.toList al = some pl) (he : evPar call al pl T S = some (T', S'))
    {ρ : Rho} {a : Act} {w : World} (h : Rel B w0 n ρ T S a w) {Q : Exit → Act → World → Prop} (hQ : ∀ ρ' a' w', ρ.le ρ' → Rel B w0 n ρ' T' S' a' w' → Q .normal a' w') (id : Nat) : (Code.region id ops true).wp P Q a w := by
  -- what is known ahead
  obtain ⟨hlen, hops⟩ := cOps_spec hc
  have hN : al.length = ops.size := by rw [hlen]; simp
  simp only [cPar] at hd
  cases hck : lows ops.toList 0 && okH (masks ops.toList []) al && al.all lone with
  | false => rw [hck] at hd; cases hd
  | true =>
  rw [hck, cond_true] at hd
  cases hd
  simp only [Bool.and_eq_true] at hck
  obtain ⟨⟨hlow, hok⟩, hlone⟩ := hck
  simp only [List.all_eq_true] at hlone
  generalize hbs : masks ops.toList [] = bs at *
  have hmask := (masks_spec ops.toList []).2
  rw [hbs] at hmask
  simp only [List.length_nil, Nat.zero_add] at hmask
  have hlow' : ∀ (k : Nat) o, ops[k]? = some o → ∀ e ∈ o.after, Region.binds .any e = true → e.on < k := fun k o hk e he hb => by
    have := lows_spec hlow k o (by simpa using hk) e he hb; omega
  simp only [evPar, Option.bind_eq_some_iff] at he
  obtain ⟨⟨tr, Tn, Sn⟩, htr, he⟩ := he
  dsimp only at he
  cases hall : ((planP bs al).all (lookP tr) && (List.range al.length).all (pureP tr Sn)) with
  | false => rw [hall] at he; cases he
  | true =>
  rw [hall, cond_true] at he
  cases he
  obtain ⟨t1, t2, t3, t4⟩ := trace_spec htr
  simp only [Bool.and_eq_true, List.all_eq_true, List.mem_range] at hall
  obtain ⟨hlook, hpure⟩ := hall
  have hloc : ∀ i x, al[i]? = some x → Local x (tmAt tr T' i) call (stAt tr S' i) (stAt tr S' (i + 1)) (vAt tr i) := fun i x hi => local_of (hlone x (List.mem_of_getElem? hi)) (t4 i x hi).1
  have heff : ∀ i x, al[i]? = some x → effAt tr i = effO x (vAt tr i) := fun i x hi => by simp only [effAt, (t4 i x hi).2.2]
  have hkeep : ∀ i x q, al[i]? = some x → effAt tr i ≠ some q → (stAt tr S' (i + 1)).get q = (stAt tr S' i).get q := fun i x q hi hq => local_keeps (hloc i x hi) (t4 i x hi).1 (by rw [← heff i x hi]; exact hq)
  have hnx : ∀ i, i < ops.size → (stAt tr S' i).next ≤ (stAt tr S' (i + 1)).next := fun i hi => by
    have hg : al[i]? = some al[i] := List.getElem?_eq_getElem (by omega)
    rcases hloc i _ hg with ⟨h1, _⟩ | ⟨xs, h1, _⟩
    · omega
    · rw [h1]; simp [St.alloc]
  have hnxd : ∀ d i, i + d ≤ ops.size → (stAt tr S' i).next ≤ (stAt tr S' (i + d)).next := by
    intro d
    induction d with
    | zero => intro i _; exact Nat.le_refl _
    | succ d ih => intro i hi; exact Nat.le_trans (ih i (by omega)) (hnx (i + d) (by omega))
  have hnxl : ∀ i j, i ≤ j → j ≤ ops.size → (stAt tr S' i).next ≤ (stAt tr S' j).next := fun i j hij hj => by
    have := hnxd (j - i) i (by omega); rwa [show i + (j - i) = j by omega] at this
  have hend : stAt tr S' ops.size = S' := by unfold stAt; rw [List.getElem?_eq_none (by omega)]
  have hdom : ∀ i, i ≤ ops.size → ∀ q x, (stAt tr S' i).get q = some x → q < (stAt tr S' i).next := by
    intro i
    induction i with
    | zero => intro _ q x hx; rw [t3] at hx ⊢; exact h.sim.dom q x hx
    | succ i ih =>
      intro hi q x hx
      have hg : al[i]? = some al[i] := List.getElem?_eq_getElem (by omega)
      have hn := hnx i (by omega)
      by_cases hs : (stAt tr S' (i + 1)).get q = (stAt tr S' i).get q
      · rw [hs] at hx; exact Nat.lt_of_lt_of_le (ih (by omega) q x hx) hn
      · have hq : effAt tr i = some q := Decidable.byContradiction fun hq => hs (hkeep i _ q hg hq)
        rcases hloc i _ hg with ⟨h1, h2, _⟩ | ⟨xs, h1, h2, h3, _⟩
        · rw [heff i _ hg] at hq
          cases hy : (stAt tr S' i).get q with
          | none => exact absurd hy ((h2 q hq).2 hs)
          | some y => exact Nat.lt_of_lt_of_le (ih (by omega) q y hy) hn
        · rw [heff i _ hg] at hq
          have : q = (stAt tr S' i).next := by
            unfold effO at hq
            rw [h3] at hq
            rcases h2 with h2 | ⟨_, _, h2⟩ <;> rw [h2] at hq <;> simp only [cond_true, objOf, Option.some.injEq] at hq <;> exact hq.symm
          rw [h1, this]; simp [St.alloc]
  have hpre : ∀ j k, k ≤ ops.size → ∀ q, OL tr S' S (fun x => Nat.blt x j) k q = (stAt tr S' (min k j)).get q := by
    intro j k
    induction k with
    | zero => intro _ q; simp only [OL, Nat.zero_min]; rw [t3]
    | succ k ih =>
      intro hk q
      have hg : al[k]? = some al[k] := List.getElem?_eq_getElem (by omega)
      simp only [OL, ih (by omega) q]
      by_cases hkj : k < j
      · have hb : Nat.blt k j = true := by simpa [Nat.blt_eq] using hkj
        rw [show min k j = k by omega, show min (k + 1) j = k + 1 by omega]
        by_cases hq : effAt tr k = some q
        · rw [if_pos ⟨hb, hq⟩]
        · rw [if_neg (fun c => hq c.2), hkeep k _ q hg hq]
      · have hb : Nat.blt k j = false := by
          cases hb : Nat.blt k j with
          | false => rfl
          | true => exact absurd (by simpa [Nat.blt_eq] using hb) hkj
        rw [if_neg (fun c => by rw [hb] at c; cases c.1), show min k j = j by omega, show min (k + 1) j = j by omega]
  -- an order
  refine wp_region_any hm ?_
  have key : ∀ (fuel : Nat) (listed : Array Bool) (ρ1 : Rho) (a1 : Act) (w1 : World) (SD : St), ρ.le ρ1 → listed.size = ops.size → listed.toList.count false ≤ fuel →
      (∀ j o, listed.getD j false = true → ops[j]? = some o → ∀ e ∈ o.after, Region.binds .any e = true → listed.getD e.on false = true) →
      TR ρ1 (TL al (vAt tr) (fun i => listed.getD i false) T ops.size) a1.tmps → n ≤ a1.tmps.size → a1.defers = [] → Sim B w0 ρ1 SD w1 → SD.next = S'.next →
      (∀ q, SD.get q = OL tr S' S (fun i => listed.getD i false) ops.size q) → wpAny P .any ops Q fuel listed a1 w1 := by
    -- what is known of a set of listed operations
    have bef : ∀ (listed : Array Bool), (∀ j o, listed.getD j false = true → ops[j]? = some o → ∀ e ∈ o.after, Region.binds .any e = true → listed.getD e.on false = true) →
        ∀ j o i, ops[j]? = some o → (∀ e ∈ o.after, Region.binds .any e = true → listed.getD e.on false = true) → (bs.getD j 0).testBit i = true → listed.getD i false = true := by
      intro listed hcl j
      induction j using Nat.strongRecOn with
      | ind j ih =>
        intro o i hj hready hbit
        obtain ⟨e, he, hb, hor⟩ := hmask j o (by simpa using hj) i hbit
        have he' : e ∈ o.after := Array.mem_toList_iff.1 he
        rcases hor with rfl | ⟨hlt, hbit'⟩
        · exact hready e he' hb
        · have hsz : e.on < ops.size := by have := (Array.getElem?_eq_some_iff.1 hj).1; omega
          exact ih e.on hlt _ i (Array.getElem?_eq_getElem hsz) (hcl e.on _ (hready e he' hb) (Array.getElem?_eq_getElem hsz)) hbit'
    have full : ∀ (listed : Array Bool), listed.size = ops.size → Region.ready .any ops listed = [] → ∀ i, i < ops.size → listed.getD i false = true := by
      intro listed hsz hr i
      induction i using Nat.strongRecOn with
      | ind i ih =>
        intro hi
        cases hl : listed.getD i false with
        | true => rfl
        | false =>
          exfalso
          have : i ∈ Region.ready .any ops listed := mem_ready.2 ⟨by
            have hlt : i < listed.size := by omega
            simpa [hlt] using hl, ops[i], Array.getElem?_eq_getElem hi, fun e he hb => by
              have hlt := hlow' i _ (Array.getElem?_eq_getElem hi) e he hb
              exact ih e.on hlt (by omega)⟩
          rw [hr] at this
          cases this
    have done : ∀ (listed : Array Bool) (ρ1 : Rho) (a1 : Act) (w1 : World) (SD : St), ρ.le ρ1 → listed.size = ops.size → Region.ready .any ops listed = [] →
        TR ρ1 (TL al (vAt tr) (fun i => listed.getD i false) T ops.size) a1.tmps → n ≤ a1.tmps.size → a1.defers = [] → Sim B w0 ρ1 SD w1 → SD.next = S'.next →
        (∀ q, SD.get q = OL tr S' S (fun i => listed.getD i false) ops.size q) → Q .normal a1 w1 := by
      intro listed ρ1 a1 w1 SD hle hsz hr hT hn hdf hS hSn hSg
      have hf := full listed hsz hr
      have hfb : ∀ i, i < ops.size → listed.getD i false = Nat.blt i ops.size := fun i hi => by rw [hf i hi]; exact (by simpa [Nat.blt_eq] using hi : Nat.blt i ops.size = true).symm
      refine hQ ρ1 a1 w1 hle ⟨?_, hn, hdf, hS.same (by omega) fun q => ?_⟩
      · intro t v hv
        refine hT t v ?_
        rw [← hv, TL_congr (L' := fun x => Nat.blt x ops.size) (fun i hi _ => hfb i hi), TL_prefix htr ops.size ops.size (by omega)]
        have : tmAt tr T' (min ops.size ops.size) = T' := by
          unfold tmAt
          rw [List.getElem?_eq_none (by omega)]
        rw [this]
      · rw [hSg q, OL_congr (L' := fun x => Nat.blt x ops.size) (fun i hi _ => hfb i hi), hpre ops.size ops.size (Nat.le_refl _) q, show min ops.size ops.size = ops.size by omega, hend]
    intro fuel
    induction fuel with
    | zero =>
      intro listed ρ1 a1 w1 SD hle hsz hcnt hcl hT hn hdf hS hSn hSg
      have hr : Region.ready .any ops listed = [] := by
        apply List.eq_nil_iff_forall_not_mem.2
        intro i hi
        obtain ⟨h0, _⟩ := mem_ready.1 hi
        have hlt : i < listed.size := by
          rcases Nat.lt_or_ge i listed.size with h' | h'
          · exact h'
          · simp [Array.getElem?_eq_none h'] at h0
        have : false ∈ listed.toList := by
          have : listed[i] = false := by simpa [hlt] using h0
          rw [← this]; exact Array.mem_toList_iff.2 (Array.getElem_mem hlt)
        have := List.count_pos_iff.2 this
        omega
      exact ⟨hr, done listed ρ1 a1 w1 SD hle hsz hr hT hn hdf hS hSn hSg⟩
    | succ fuel ih =>
      intro listed ρ1 a1 w1 SD hle hsz hcnt hcl hT hn hdf hS hSn hSg
      refine ⟨fun hr => done listed ρ1 a1 w1 SD hle hsz hr hT hn hdf hS hSn hSg, fun i hi => ?_⟩
      obtain ⟨h0, o, ho, hready⟩ := mem_ready.1 hi
      have hi' : i < ops.size := (Array.getElem?_eq_some_iff.1 ho).1
      have hil : i < listed.size := by omega
      have hun : listed.getD i false = false := by simpa [hil] using h0
      obtain ⟨ao, hao, hcao⟩ := hops i o (by simpa using ho)
      obtain ⟨hdst, hdn⟩ := cOper_dst hcao
      have hbef : ∀ j, (bs.getD i 0).testBit j = true → listed.getD j false = true := fun j hj => bef listed hcl i o j ho hready hj
      have haft : ∀ j, (bs.getD j 0).testBit i = true → j < ops.size → listed.getD j false = false := by
        intro j hj hjs
        cases hl : listed.getD j false with
        | false => rfl
        | true =>
          have := bef listed hcl j _ i (Array.getElem?_eq_getElem hjs) (hcl j _ hl (Array.getElem?_eq_getElem hjs)) hj
          rw [hun] at this; cases this
      -- writers of what it names
      have writers : ∀ t, (t ∈ ao.tmps ∨ ao.dst = some t) → ∀ j, j < ops.size → j ≠ i → (al[j]?).bind (·.dst) = some t → listed.getD j false = Nat.blt j i := by
        intro t ht j hj hne hw
        have hjl : j < al.length := by omega
        have hgj : al[j]? = some al[j] := List.getElem?_eq_getElem hjl
        rw [hgj, Option.bind_some] at hw
        have hhit : hits al[j] ao = true := by
          unfold hits
          rw [hw]
          dsimp only
          rcases ht with ht | ht
          · rw [memN_of ht]; rfl
          · rw [ht]; simp
        rcases Nat.lt_or_gt_of_ne hne with hji | hij
        · have := okH_spec hok hji hao hgj (by rw [hhit]; rfl)
          rw [hbef j this]; exact (by simpa [Nat.blt_eq] using hji : Nat.blt j i = true).symm
        · have := okH_spec hok hij hgj hao (by rw [hhit]; simp)
          rw [haft j this hj]
          cases hb : Nat.blt j i with
          | false => rfl
          | true => have : j < i := by simpa [Nat.blt_eq] using hb
                    omega
      -- its operands
      have hopnd : ∀ t ∈ ao.tmps, (TL al (vAt tr) (fun i => listed.getD i false) T ops.size).get t = (tmAt tr T' i).get t := by
        intro t ht
        rw [TL_congr (L' := fun x => Nat.blt x i) (fun j hj hw => by
          show listed.getD j false = Nat.blt j i
          by_cases hne : j = i
          · subst hne; rw [hun]; cases hb : Nat.blt j j with
            | false => rfl
            | true => simp [Nat.blt_eq] at hb
          · exact writers t (.inl ht) j hj hne hw), TL_prefix htr i ops.size (by omega), show min ops.size i = i by omega]
      obtain ⟨ev1, ev2, ev3⟩ := t4 i ao hao
      -- what turns what it looks at
      have touch : ∀ q, q ∈ fpOf ao.op (tmAt tr T' i) → ∀ k, k < ops.size → k ≠ i → effAt tr k = some q → listed.getD k false = Nat.blt k i := by
        intro q hq k hk hne hw
        have hgk : al[k]? = some al[k] := List.getElem?_eq_getElem (by omega)
        have hheavy : al[k].op.heavy = true := by
          rw [heff k _ hgk] at hw
          unfold effO at hw
          cases hh : al[k].op.heavy with
          | true => rfl
          | false => rw [hh] at hw; cases hw
        have no : planP1 bs al i k = some (i, k) → False := fun hp => by
          have := hlook (i, k) (planP_spec hao (looks_fp hq) (by omega) hp)
          simp only [lookP, (t4 i ao hao).2.2, (t4 k _ hgk).2.2] at this
          rw [heff k _ hgk] at hw
          unfold effO at hw
          rw [hheavy, cond_true] at hw
          rw [hw] at this
          simp only [Bool.not_eq_true', List.any_eq_false] at this
          exact this q hq (Nat.beq_refl q)
        have hbe : Nat.beq i k = false := by
          cases hb : Nat.beq i k with
          | false => rfl
          | true => exact absurd (Nat.eq_of_beq_eq_true hb).symm hne
        rcases Nat.lt_or_gt_of_ne hne with hki | hik
        · have hb2 : Nat.blt k i = true := by simpa [Nat.blt_eq] using hki
          rw [hb2]
          refine hbef k ?_
          cases hb : (bs.getD i 0).testBit k with
          | true => rfl
          | false => exact (no (by simp only [planP1, hgk, hheavy, hbe, hb, hb2, Bool.not_false, Bool.and_self, cond_true, cond_false])).elim
        · have hb2 : Nat.blt k i = false := by
            cases hb2 : Nat.blt k i with
            | false => rfl
            | true => have : k < i := by simpa [Nat.blt_eq] using hb2
                      omega
          rw [hb2]
          cases hb : (bs.getD k 0).testBit i with
          | true => exact haft k hb hk
          | false => exact (no (by simp only [planP1, hgk, hheavy, hbe, hb, hb2, Bool.not_false, Bool.and_self, cond_true, cond_false])).elim
      have hblt : ∀ k, Nat.blt k k = false := fun k => by
        cases hb : Nat.blt k k with
        | false => rfl
        | true => simp [Nat.blt_eq] at hb
      have hfp : ∀ q ∈ fpOf ao.op (tmAt tr T' i), SD.get q = (stAt tr S' i).get q := by
        intro q hq
        rw [hSg q, OL_congr (L' := fun x => Nat.blt x i) (fun k hk hw => by
          show listed.getD k false = Nat.blt k i
          by_cases hne : k = i
          · subst hne; rw [hun, hblt]
          · exact touch q hq k hk hne hw), hpre i ops.size (Nat.le_refl _) q, show min ops.size i = i by omega]
      have fin : ∀ (ρ3 : Rho) (c : Value) (w2 : World) (SD' : St), ρ1.le ρ3 → VR ρ3 (vAt tr i) c → Sim B w0 ρ3 SD' w2 → SD'.next = S'.next → (∀ q, SD'.get q = OL tr S' S (fun j => (listed.setIfInBounds i true).getD j false) ops.size q) →
          wpAny P .any ops Q fuel (listed.setIfInBounds i true) (a1.put o.dst c) w2 := by
        intro ρ2 c w2 SD' hle2 hvc hS2 hn2 hg2
        refine ih (listed.setIfInBounds i true) ρ2 (a1.put o.dst c) w2 SD' (Rho.le_trans hle hle2) (by simpa using hsz) ?_ ?_ ?_ (by rw [put_size]; exact hn) (by rw [put_defers]; exact hdf) hS2 hn2 hg2
        · have hlf : listed.toList[i]'(by simpa using hil) = false := by simpa [hil] using h0
          have := List.count_set (l := listed.toList) (i := i) (a := true) (b := false) (by simpa using hil)
          rw [hlf] at this
          simp only [Array.toList_setIfInBounds]
          have hpos : 0 < listed.toList.count false := List.count_pos_iff.2 (by rw [← hlf]; exact List.getElem_mem _)
          simp only [beq_self_eq_true, if_true, show (true == false) = false from rfl, Bool.false_eq_true, if_false] at this
          omega
        · intro j o' hl hj e he hb
          by_cases hne : j = i
          · subst hne
            rw [ho] at hj
            cases hj
            exact getD_set_true (hready e he hb)
          · rw [getD_set_ne false (Ne.symm hne)] at hl
            exact getD_set_true (hcl j o' hl hj e he hb)
        · intro t v hv
          by_cases hd : o.dst = some t
          · have hd' : ao.dst = some t := by rw [hdst]; exact hd
            have : (TL al (vAt tr) (fun j => (listed.setIfInBounds i true).getD j false) T ops.size).get t = some (vAt tr i) := by
              rw [TL_congr (L' := fun x => Nat.blt x (i + 1)) (fun j hj hw => by
                show (listed.setIfInBounds i true).getD j false = Nat.blt j (i + 1)
                by_cases hne : j = i
                · subst hne
                  rw [show Nat.blt j (j + 1) = true by simp [Nat.blt_eq]]
                  simp [hil]
                · rw [getD_set_ne false (Ne.symm hne), writers t (.inr hd') j hj hne hw]
                  rw [Bool.eq_iff_iff]
                  simp only [Nat.blt_eq]
                  omega), TL_prefix htr (i + 1) ops.size (by omega), show min ops.size (i + 1) = i + 1 by omega, ev2, hd']
              simp [putD, Tr.get_set]
            rw [this] at hv
            cases hv
            have := hdn t hd
            exact ⟨c, by simp [hd, Act.put, show t < a1.tmps.size from Nat.lt_of_lt_of_le this hn], hvc⟩
          · have hd' : ao.dst ≠ some t := by rw [hdst]; exact hd
            have : (TL al (vAt tr) (fun j => (listed.setIfInBounds i true).getD j false) T ops.size).get t = (TL al (vAt tr) (fun j => listed.getD j false) T ops.size).get t :=
              TL_congr fun j hj hw => by
                have hne : i ≠ j := fun e => by subst e; rw [hao] at hw; exact hd' hw
                exact getD_set_ne false hne
            rw [this] at hv
            obtain ⟨c', h1, h2⟩ := hT t v hv
            refine ⟨c', ?_, VR.mono hle2 h2⟩
            cases ho2 : o.dst with
            | none => simpa [Act.put] using h1
            | some d =>
              have hne : d ≠ t := fun e => hd (by rw [ho2, e])
              simp only [Act.put]
              rw [Array.getElem?_setIfInBounds_ne hne]; exact h1

      have hi1 : stAt tr S' (i + 1) = stAt tr S' (i + 1) := rfl
      rcases hloc i ao hao with ⟨l1, l2, l3⟩ | ⟨xs, l1, l2, l3, l4⟩
      · obtain ⟨S2', k1, k2, k3⟩ := l3 SD hfp
        rw [← oper_congr SD hopnd] at k1
        refine oper_sound hcall ho hcao hT hS k1 fun ρ2 c w2 hle2 hvc hS2 => fin ρ2 c w2 S2' hle2 hvc hS2 (by omega) fun q => ?_
        rw [k3 q, ← heff i ao hao]
        by_cases hq : effAt tr i = some q
        · rw [if_pos hq]
          have hqf := (l2 q (by rw [← heff i ao hao]; exact hq)).1
          rw [OL_congr (L' := fun x => Nat.blt x (i + 1)) (fun k hk hw => by
            show (listed.setIfInBounds i true).getD k false = Nat.blt k (i + 1)
            by_cases hne : k = i
            · subst hne
              rw [show Nat.blt k (k + 1) = true by simp [Nat.blt_eq]]
              simp [hil]
            · rw [getD_set_ne false (Ne.symm hne), touch q hqf k hk hne hw]
              rw [Bool.eq_iff_iff]
              simp only [Nat.blt_eq]
              omega), hpre (i + 1) ops.size (Nat.le_refl _) q, show min ops.size (i + 1) = i + 1 by omega]
        · rw [if_neg hq, hSg q]
          refine OL_congr fun k hk hw => ?_
          have hne : i ≠ k := fun e => by subst e; exact hq hw
          exact (getD_set_ne false hne).symm
      · have hSi : (stAt tr S' (i + 1)).next = (stAt tr S' i).next + 1 := by rw [l1]; rfl
        have hlt : (stAt tr S' i).next < SD.next := by
          have := hnxl (i + 1) ops.size (by omega) (Nat.le_refl _)
          rw [hend] at this
          omega
        have heffi : effAt tr i = some (stAt tr S' i).next := by
          rw [heff i ao hao]
          unfold effO
          rw [l3]
          rcases l2 with l2 | ⟨_, _, l2⟩ <;> rw [l2] <;> rfl
        -- no other listed operation makes or turns that object
        have other : ∀ k, k < ops.size → k ≠ i → listed.getD k false = true → i < k → effAt tr k ≠ some (stAt tr S' i).next := by
          intro k hk hne hl hik hw
          have hgk : al[k]? = some al[k] := List.getElem?_eq_getElem (by omega)
          have hheavy : al[k].op.heavy = true := by
            rw [heff k _ hgk] at hw
            unfold effO at hw
            cases hh : al[k].op.heavy with
            | true => rfl
            | false => rw [hh] at hw; cases hw
          rcases hloc k _ hgk with ⟨g1, g2, _⟩ | ⟨ys, g1, g2, g3, _⟩
          · have hqf := (g2 _ (by rw [← heff k _ hgk]; exact hw)).1
            have hb2 : Nat.blt i k = true := by simpa [Nat.blt_eq] using hik
            have hbe : Nat.beq k i = false := by
              cases hb : Nat.beq k i with
              | false => rfl
              | true => exact absurd (Nat.eq_of_beq_eq_true hb) hne
            cases hb : (bs.getD k 0).testBit i with
            | true =>
              rw [haft k hb hk] at hl; cases hl
            | false =>
              have := hlook (k, i) (planP_spec (k := i) hgk (looks_fp hqf) (by omega) (by simp only [planP1, hao, l3, hbe, hb, hb2, Bool.not_false, Bool.and_self, cond_true, cond_false]))
              simp only [lookP, (t4 i ao hao).2.2, (t4 k _ hgk).2.2] at this
              rw [heff i ao hao] at heffi
              unfold effO at heffi
              rw [l3, cond_true] at heffi
              rw [heffi] at this
              simp only [Bool.not_eq_true', List.any_eq_false] at this
              exact this _ hqf (Nat.beq_refl _)
          · have : (stAt tr S' i).next = (stAt tr S' k).next := by
              rw [heff k _ hgk] at hw
              unfold effO at hw
              rw [g3] at hw
              rcases g2 with g2 | ⟨_, _, g2⟩ <;> rw [g2] at hw <;> simp only [cond_true, objOf, Option.some.injEq] at hw <;> exact hw.symm
            have := hnxl (i + 1) k (by omega) (by omega)
            omega
        have low : ∀ (L : Nat → Bool) (j : Nat), j ≤ i → OL tr S' S L j (stAt tr S' i).next = none := by
          intro L j
          induction j with
          | zero =>
            intro _
            simp only [OL]
            cases hx : S.get (stAt tr S' i).next with
            | none => rfl
            | some y =>
              have := h.sim.dom _ y hx
              have h2 := hnxl 0 i (by omega) (by omega)
              rw [t3] at h2
              omega
          | succ j ihj =>
            intro hj
            simp only [OL, ihj (by omega)]
            split
            · cases hx : (stAt tr S' (j + 1)).get (stAt tr S' i).next with
              | none => rfl
              | some y =>
                have := hdom (j + 1) (by omega) _ y hx
                have h2 := hnxl (j + 1) i (by omega) (by omega)
                omega
            · rfl
        have hfree : SD.get (stAt tr S' i).next = none := by
          rw [hSg]
          have : ∀ d, i + 1 + d ≤ ops.size → OL tr S' S (fun j => listed.getD j false) (i + 1 + d) (stAt tr S' i).next = none := by
            intro d
            induction d with
            | zero =>
              intro _
              simp only [Nat.add_zero, OL, low _ i (Nat.le_refl _)]
              rw [if_neg (fun c => by rw [hun] at c; cases c.1)]
            | succ d ihd =>
              intro hd
              rw [← Nat.add_assoc]
              simp only [OL, ihd (by omega)]
              rw [if_neg (fun c => other (i + 1 + d) (by omega) (by omega) c.1 (by omega) c.2)]
          have := this (ops.size - (i + 1)) (by omega)
          rwa [show i + 1 + (ops.size - (i + 1)) = ops.size by omega] at this
        have hpx : AV.pures xs = true := by
          have := hpure i (by omega)
          rw [heff i ao hao] at heffi
          unfold effO at heffi
          rw [l3, cond_true] at heffi
          simp only [pureP, (t4 i ao hao).2.2, l3, cond_true, heffi] at this
          rw [l1, St.get_alloc, if_pos rfl] at this
          simp only [Nat.ble_eq_true_of_le (Nat.le_refl _), cond_true] at this
          exact this
        have k1 := l4 SD hfp
        rw [← oper_congr SD hopnd] at k1
        refine oper_sound hcall ho hcao hT hS k1 fun ρ2 c w2 hle2 hvc hS2 => ?_
        obtain ⟨ρ3, g1, g2, g3⟩ := hS.renew hS2 hle2 hlt hfree hpx
        refine fin ρ3 c w2 _ g1 ?_ g3 hSn fun q => ?_
        · rcases l2 with l2 | ⟨len, e, l2⟩
          · rw [l2] at hvc ⊢
            cases hvc with
            | ptr hL h0 h1 ha => exact .ptr (by rw [g2]; exact hL) h0 h1 ha
          · rw [l2] at hvc ⊢
            cases hvc with
            | slice hL h0 h1 h2 h3 h4 ha => exact .slice (by rw [g2]; exact hL) h0 h1 h2 h3 h4 ha
        · rw [St.get_put]
          by_cases hq : q = (stAt tr S' i).next
          · rw [if_pos hq, hq]
            have : ∀ d, i + 1 + d ≤ ops.size → OL tr S' S (fun j => (listed.setIfInBounds i true).getD j false) (i + 1 + d) (stAt tr S' i).next = some (.cells xs 0 0 true) := by
              intro d
              induction d with
              | zero =>
                intro _
                simp only [Nat.add_zero, OL]
                rw [if_pos ⟨by simp [hil], heffi⟩, l1, St.get_alloc, if_pos rfl]
              | succ d ihd =>
                intro hd
                rw [← Nat.add_assoc]
                simp only [OL, ihd (by omega)]
                rw [if_neg (fun c => other (i + 1 + d) (by omega) (by omega) (by rw [← c.1, getD_set_ne false (by omega)]) (by omega) c.2)]
            have := this (ops.size - (i + 1)) (by omega)
            rw [show i + 1 + (ops.size - (i + 1)) = ops.size by omega] at this
            exact this.symm
          · rw [if_neg hq, hSg q]
            refine OL_congr fun k hk hw => ?_
            have hne : i ≠ k := fun e => by subst e; rw [heffi] at hw; cases hw; exact hq rfl
            exact (getD_set_ne false hne).symm
  refine key ops.size (Array.replicate ops.size false) ρ a _ ⟨S'.next, S.objs⟩ (Rho.le_refl ρ) (by simp) ?_ ?_ ?_ h.sz h.df ?_ rfl ?_
  · exact Nat.le_trans List.count_le_length (by simp)
  · intro j o hl
    exfalso
    rcases Nat.lt_or_ge j ops.size with hlt | hge <;> simp_all
  · intro t v hv
    refine h.tr t v ?_
    rw [← hv, TL_congr (L' := fun x => Nat.blt x 0) (fun i hi _ => by simp [hi]; rfl), TL_prefix htr 0 ops.size (by omega), show min ops.size 0 = 0 by omega, t2]
  · refine (h.sim.drawn _).same ?_ fun q => rfl
    have := hnxl 0 ops.size (by omega) (Nat.le_refl _)
    rw [t3, hend] at this
    exact this
  · intro q
    rw [OL_congr (L' := fun x => Nat.blt x 0) (fun i hi _ => by simp [hi]; rfl), hpre 0 ops.size (Nat.le_refl _) q, show min ops.size 0 = 0 by omega, t3]
    rfl
end
end Go.Proofs.YtinnclcheekhpaaA
