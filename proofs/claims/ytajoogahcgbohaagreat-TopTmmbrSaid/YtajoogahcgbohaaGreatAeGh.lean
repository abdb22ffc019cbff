/- An abstract evaluator, part Gh: blocks that are made ahead of their place in the text. -/
import Derived.Test.YtajoogahcgbohaaGreatAeW
set_option linter.unusedVariables false
set_option linter.unusedSimpArgs false
namespace Go.Proofs.YtajoogahcgbohaaGreatA
open Go.RowKit

/-- The state of no object. -/
def S0 : St := ⟨0, .lf⟩
def ρ0 : Rho := fun _ _ => none
theorem sim0 (w : World) : Sim w.heap.size w ρ0 S0 w where
  below := ⟨rfl, rfl, rfl, Nat.le_refl _, fun _ _ => rfl⟩
  base := Nat.le_refl _
  fresh o u L e := by cases e
  dom o x e := by cases e
  heap o u L e := by cases e
  obj o x e := by cases e
  apart o u L o' u' L' e := by cases e
  gh g x e := by cases e
mutual
theorem VR.any {ρ ρ' : Rho} : ∀ {a : AV} {v : Value}, a.pure = true → VR ρ a v → VR ρ' a v
  | _, _, _, .int h => .int h
  | _, _, _, .bool => .bool
  | _, _, _, .float => .float
  | _, _, _, .str h => .str h
  | _, _, _, .ptrNil => .ptrNil
  | _, _, hp, .ptr hL h0 h1 ha => by simp [AV.pure] at hp
  | _, _, _, .sliceNil => .sliceNil
  | _, _, hp, .slice hL h0 h1 h2 h3 h4 ha => by simp [AV.pure] at hp
  | _, _, hp, .func h => .func (VRs.any (by simpa [AV.pure] using hp) h)
  | _, _, _, .nilFunc => .nilFunc
  | _, _, hp, .iface h => .iface (VR.any (by simpa [AV.pure] using hp) h)
  | _, _, _, .nilIface => .nilIface
  | _, _, hp, .agg h h' => .agg (VRs.any (by simpa [AV.pure] using hp) h) h'
  | _, _, hp, .tuple h => .tuple (VRs.any (by simpa [AV.pure] using hp) h)
theorem VRs.any {ρ ρ' : Rho} : ∀ {l : List AV} {cs : List Value}, AV.pures l = true → VRs ρ l cs → VRs ρ' l cs
  | _, _, _, .nil => .nil
  | _, _, hp, .cons h t => by
    simp only [AV.pures, Bool.and_eq_true] at hp
    exact .cons (VR.any hp.1 h) (VRs.any hp.2 t)
end
/-- The same new place, of another number. -/
def reN (n : Nat) : AV → AV
  | .ptr (some p) => .ptr (some ⟨n, p.v, p.i, p.n⟩)
  | .slice (some (_, v, i)) len e c => .slice (some (n, v, i)) len e c
  | v => v
theorem birth_heavy {op : AOp} (h : op.birth = true) : op.heavy = true := by cases op <;> first | rfl | (simp [AOp.birth] at h)
theorem birth_ev {call : Nat → List AV → St → Option (AV × St)} {o : AOper} (hb : o.op.birth = true) (hg : o.guard = none) {T : Tm} {S S' : St} {v : AV} (he : evOper call o T S = some (v, S')) :
    ∃ x, S' = S.alloc (.cells x 0 0 true) ∧ (v = .ptr (some ⟨S.next, 0, 0, x.length⟩) ∨ ∃ len e, v = .slice (some (S.next, 0, 0)) len e none) ∧
      ∀ (call' : Nat → List AV → St → Option (AV × St)) (S2 : St), evOper call' o T S2 = some (reN S2.next v, S2.alloc (.cells x 0 0 true)) := by
  obtain ⟨dst, guard, op⟩ := o
  simp only at hg hb
  subst hg
  cases op <;> simp only [AOp.birth, Bool.false_eq_true] at hb
  case alloc z =>
    simp only [evOper, wanted, Option.bind_some, cond_true, evAny, AOp.calls, cond_false, evOp, Option.some.injEq, Prod.mk.injEq, newVar] at he ⊢
    obtain ⟨rfl, rfl⟩ := he
    exact ⟨z, rfl, .inl rfl, fun _ _ => ⟨rfl, rfl⟩⟩
  case buildSlice esz z len parts =>
    simp only [evOper, wanted, Option.bind_some, cond_true, evAny, AOp.calls, cond_false, evOp, Option.bind_eq_some_iff, Option.map_eq_some_iff] at he ⊢
    obtain ⟨ps, h1, cs, h2, h3⟩ := he
    simp only [newSl, Prod.mk.injEq] at h3
    obtain ⟨rfl, rfl⟩ := h3
    exact ⟨cs, rfl, .inr ⟨_, _, rfl⟩, fun _ _ => ⟨ps, h1, cs, h2, rfl⟩⟩
  case mkSlice esz bytes z len cap =>
    simp only [evOper, wanted, Option.bind_some, cond_true, evAny, AOp.calls, cond_false, evOp, Option.bind_eq_some_iff] at he ⊢
    obtain ⟨lv, h1, h2⟩ := he
    split at h2
    · rename_i l
      simp only [Option.bind_eq_some_iff] at h2
      obtain ⟨cv, h3, h4⟩ := h2
      split at h4
      · rename_i c
        split at h4
        · rename_i hc
          simp only [Option.some.injEq, newSl, Prod.mk.injEq] at h4
          obtain ⟨rfl, rfl⟩ := h4
          refine ⟨_, rfl, .inr ⟨_, _, rfl⟩, fun _ S2 => ⟨_, h1, ?_⟩⟩
          simp only [Option.bind_eq_some_iff]
          refine ⟨_, h3, ?_⟩
          simp only [if_pos hc, newSl]
          rfl
        · cases h4
      · cases h4
    · cases h2
/-- A block that lies ready for an object of cells x; c is what stands for it. -/
structure Gho (x : List AV) (L : Loc) (ob : Obj) (v : AV) (c : Value) : Prop where
  ext : L.ext = x.length
  room : L.ext ≤ L.start + L.room
  mem : ∃ cs e fz, ob = .cells cs e fz ∧ L.boff + L.room ≤ cs.size ∧ (∀ i, L.start ≤ i → i < L.ext → ∃ a u, x[i]? = some a ∧ cs[L.at i]? = some u ∧ ∀ ρ : Rho, VR ρ a u) ∧ Fz fz cs.size
  atoms : x.all AV.atom = true
  val : ∀ (ρ : Rho) (N : Nat), ρ N 0 = some L → VR ρ (reN N v) c
theorem pures_get : ∀ {l : List AV} {i : Nat} {a : AV}, AV.pures l = true → l[i]? = some a → a.pure = true
  | [], _, _, _, h => by simp at h
  | v :: r, 0, a, hp, h => by
    simp only [AV.pures, Bool.and_eq_true] at hp
    simp only [List.getElem?_cons_zero, Option.some.injEq] at h
    subst h; exact hp.1
  | v :: r, i + 1, a, hp, h => by
    simp only [AV.pures, Bool.and_eq_true] at hp
    simp only [List.getElem?_cons_succ] at h
    exact pures_get hp.2 h
theorem Gho.of_sim {B : Nat} {b0 : Base} {ρ : Rho} {w2 : World} {x : List AV} {v : AV} {c : Value} (hp : AV.pures x = true) (hS : Sim B b0 ρ (S0.alloc (.cells x 0 0 true)) w2)
    (hv : v = .ptr (some ⟨0, 0, 0, x.length⟩) ∨ ∃ len e, v = .slice (some (0, 0, 0)) len e none) (hc : VR ρ v c) : ∃ L ob, w2.heap[L.blk]? = some ob ∧ B ≤ L.blk ∧ Gho x L ob v c := by
  have hobj : CellsAt B ρ w2 0 x 0 0 true := hS.obj 0 (.cells x 0 0 true) (by rw [St.get_alloc]; rfl)
  have key : ∀ L, ρ 0 0 = some L → (∀ (ρ' : Rho) (N : Nat), ρ' N 0 = some L → VR ρ' (reN N v) c) → ∃ L ob, w2.heap[L.blk]? = some ob ∧ B ≤ L.blk ∧ Gho x L ob v c := by
    intro L hL hval
    obtain ⟨h1, h2, cs, e, fz, h3, h4, h5, h6⟩ := hobj.mem 0 L hL (Nat.le_refl _)
    refine ⟨L, _, h3, by have := hobj.side 0 L hL; simpa using this, hobj.last L hL, h2, ⟨cs, e, fz, rfl, h4, fun i hi hi' => ?_, h6 rfl⟩, hobj.atoms, hval⟩
    obtain ⟨a, u, ha, hu, hvr⟩ := h5 i hi hi'
    exact ⟨a, u, ha, hu, fun ρ' => VR.any (pures_get hp ha) hvr⟩
  rcases hv with rfl | ⟨len, e, rfl⟩
  · cases hc with
    | ptr hL h0 h1 ha => exact key _ hL fun ρ' N hN => .ptr (p := ⟨N, 0, 0, x.length⟩) hN h0 h1 ha
  · cases hc with
    | slice hL h0 h1 h2 h3 h4 ha => exact key _ hL fun ρ' N hN => .slice hN h0 h1 h2 h3 h4 ha
section
variable {B : Nat} {b0 : Base} {ρ : Rho} {S : St} {w w2 : World}
def Base.lay (b0 : Base) (g : Nat) (ob : Obj) : Base := ⟨b0.w, fun b => if b = g then some ob else b0.G b⟩
theorem Sim.lay (h : Sim B b0 ρ S w) (hb : Below w.heap.size w w2) {g : Nat} {ob : Obj} (hg : w.heap.size ≤ g) (ho : w2.heap[g]? = some ob) : Sim B (b0.lay g ob) ρ S w2 ∧ b0.G g = none := by
  have h2 := h.world hb
  refine ⟨⟨h2.below, h2.base, h2.fresh, h2.dom, h2.heap, h2.obj, h2.apart, fun b y hy => ?_⟩, ?_⟩
  · by_cases hbg : b = g
    · subst hbg
      have hy' : ob = y := by simpa [Base.lay] using hy
      subst hy'
      exact ⟨ho, Nat.le_trans h.base hg, fun o u L e => by have := h.heap o u L e; omega⟩
    · have hy' : b0.G b = some y := by simpa [Base.lay, hbg] using hy
      exact h2.gh b y hy'
  · cases hq : b0.G g with
    | none => rfl
    | some y =>
      have := (h.gh g y hq).1
      rw [Array.getElem?_eq_none hg] at this
      cases this
theorem Sim.adopt {x : List AV} {L : Loc} {ob : Obj} {v : AV} {c : Value} (h : Sim B (b0.lay L.blk ob) ρ S w) (hfree : b0.G L.blk = none) (G : Gho x L ob v c) :
    ∃ ρ', ρ.le ρ' ∧ ρ' S.next 0 = some L ∧ Sim B b0 ρ' (S.alloc (.cells x 0 0 true)) w := by
  have hnone : ∀ u, ρ S.next u = none := fun u => by
    cases hq : ρ S.next u with
    | none => rfl
    | some L => exact absurd (h.fresh _ _ _ hq) (Nat.lt_irrefl _)
  obtain ⟨g1, g2, g3⟩ := h.gh L.blk ob (by simp [Base.lay])
  have hlt : L.blk < w.heap.size := by
    rcases Nat.lt_or_ge L.blk w.heap.size with h' | h'
    · exact h'
    · rw [Array.getElem?_eq_none h'] at g1; cases g1
  have hle : ρ.le (fun o u => if o = S.next ∧ u = 0 then some L else ρ o u) := by
    intro o u L' e'
    by_cases ho : o = S.next ∧ u = 0
    · rw [ho.1, hnone] at e'; cases e'
    · simp only [if_neg ho]; exact e'
  have only : ∀ u L', (if S.next = S.next ∧ u = 0 then some L else ρ S.next u) = some L' → u = 0 ∧ L' = L := by
    intro u L' e'
    by_cases hu : u = 0
    · simp [hu] at e'; exact ⟨hu, e'.symm⟩
    · rw [if_neg (fun k => hu k.2), hnone] at e'; cases e'
  refine ⟨fun o u => if o = S.next ∧ u = 0 then some L else ρ o u, hle, by simp, ?_⟩
  refine ⟨h.below, h.base, ?_, ?_, ?_, ?_, ?_, ?_⟩
  · intro o u L' eL
    by_cases ho : o = S.next
    · subst ho; simp [St.alloc]
    · have eL' : ρ o u = some L' := by simpa [ho] using eL
      exact Nat.lt_of_lt_of_le (h.fresh o u L' eL') (by simp [St.alloc])
  · intro o y eo
    rw [St.get_alloc] at eo
    by_cases ho : o = S.next
    · subst ho; simp [St.alloc]
    · rw [if_neg ho] at eo; exact Nat.lt_of_lt_of_le (h.dom o y eo) (by simp [St.alloc])
  · intro o u L' eL
    by_cases ho : o = S.next
    · subst ho; obtain ⟨_, rfl⟩ := only u L' eL; exact hlt
    · have eL' : ρ o u = some L' := by simpa [ho] using eL
      exact h.heap o u L' eL'
  · intro o y eo
    rw [St.get_alloc] at eo
    by_cases ho : o = S.next
    · rw [if_pos ho] at eo
      cases eo
      subst ho
      obtain ⟨cs, e, fz, hob, hm1, hm2, hm3⟩ := G.mem
      refine (show CellsAt B _ w S.next x 0 0 true from ⟨?_, ?_, ?_, ?_, ?_, G.atoms⟩)
      · intro u L' eL; obtain ⟨rfl, _⟩ := only u L' eL; exact Nat.le_refl _
      · intro L' eL; obtain ⟨_, rfl⟩ := only 0 L' eL; exact G.ext
      · intro u L' eL _
        obtain ⟨_, rfl⟩ := only u L' eL
        refine ⟨by rw [G.ext]; exact Nat.le_refl _, G.room, cs, e, fz, by rw [g1, hob], hm1, fun i hi hi' => ?_, fun _ => hm3⟩
        obtain ⟨a, u', ha, hu, hvr⟩ := hm2 i hi hi'
        exact ⟨a, u', ha, hu, hvr _⟩
      · intro u L' eL; obtain ⟨_, rfl⟩ := only u L' eL; simpa using g2
      · intro u L1 u' L2 eL eL'; obtain ⟨_, rfl⟩ := only u L1 eL; obtain ⟨_, rfl⟩ := only u' L2 eL'; exact fun _ => ⟨rfl, rfl⟩
    · rw [if_neg ho] at eo
      have hobj := h.obj o y eo
      have hρ : ∀ u, (if o = S.next ∧ u = 0 then some L else ρ o u) = ρ o u := fun u => if_neg fun k => ho k.1
      cases y with
      | cells c ver minv own =>
        have hc : CellsAt B ρ w o c ver minv own := hobj
        refine (show CellsAt B _ w o c ver minv own from ⟨?_, ?_, ?_, ?_, ?_, hc.atoms⟩)
        · intro u L eL; rw [hρ u] at eL; exact hc.vers u L eL
        · intro L eL; rw [hρ ver] at eL; exact hc.last L eL
        · intro u L eL hm
          rw [hρ u] at eL
          obtain ⟨h1, h2, cs', e', fz', h3, h4, h5, h6⟩ := hc.mem u L eL hm
          refine ⟨h1, h2, cs', e', fz', h3, h4, fun i hi hi' => ?_, h6⟩
          obtain ⟨a, v, ha', hv', hvr⟩ := h5 i hi hi'
          exact ⟨a, v, ha', hv', VR.mono hle hvr⟩
        · intro u L eL; rw [hρ u] at eL; exact hc.side u L eL
        · intro u L u' L' eL eL'; rw [hρ u] at eL; rw [hρ u'] at eL'; exact hc.align u L u' L' eL eL'
      | fork c ver minv g => exact (show ForkAt B _ w o c ver minv g from ForkAt.mono hobj hρ hle (fun _ _ _ => rfl))
      | map kk kv l c => exact (show MapAt B _ w o kk kv l c from MapAt.mono hobj hρ (fun _ _ _ => rfl))
      | iter s pos =>
        have hc : IterAt B ρ w o s pos := hobj
        refine (show IterAt B _ w o s pos from ⟨?_, ?_, ?_⟩)
        · intro u L eL; rw [hρ u] at eL; exact hc.side u L eL
        · intro u L eL; rw [hρ u] at eL; exact hc.mem u L eL
        · intro u L u' L' eL eL'; rw [hρ u] at eL; rw [hρ u'] at eL'; exact hc.uniq u L u' L' eL eL'
  · intro o u L1 o' u' L2 eL eL' hne hB heq
    by_cases ho : o = S.next
    · subst ho
      obtain ⟨_, rfl⟩ := only u L1 eL
      have e2 : ρ o' u' = some L2 := by simpa [Ne.symm hne] using eL'
      exact g3 o' u' L2 e2 heq.symm
    · have e1 : ρ o u = some L1 := by simpa [ho] using eL
      by_cases ho' : o' = S.next
      · subst ho'
        obtain ⟨_, rfl⟩ := only u' L2 eL'
        exact g3 o u L1 e1 heq
      · have e2 : ρ o' u' = some L2 := by simpa [ho'] using eL'
        exact h.apart o u L1 o' u' L2 e1 e2 hne hB heq
  · intro g y hg
    have hne : g ≠ L.blk := fun e => by rw [e, hfree] at hg; cases hg
    obtain ⟨k1, k2, k3⟩ := h.gh g y (by simpa [Base.lay, hne] using hg)
    refine ⟨k1, k2, fun o u L' e => ?_⟩
    by_cases ho : o = S.next
    · subst ho
      obtain ⟨_, rfl⟩ := only u L' e
      exact Ne.symm hne
    · have eL' : ρ o u = some L' := by simpa [ho] using e
      exact k3 o u L' eL'
end
end Go.Proofs.YtajoogahcgbohaaGreatA
