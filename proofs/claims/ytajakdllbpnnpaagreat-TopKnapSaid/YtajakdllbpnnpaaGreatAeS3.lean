/- An abstract evaluator, what is used with it: arguments that are rows of cells, which the call reads alone. -/
import Derived.Test.YtajakdllbpnnpaaGreatAeS2
set_option linter.unusedVariables false
set_option linter.unusedSimpArgs false
namespace Go.Proofs.YtajakdllbpnnpaaGreatA
open Go.RowKit

section
variable {B : Nat} {w0 : Base} {w : World} {ρ : Rho} {S : St}
/-- A row of cells that was there when the call began, as an object that is read alone. -/
theorem Sim.arg (h : Sim B w0 ρ S w) {xs : List AV} {b off : Nat} {cs : Array Value} {e : TypeId} {fz : Nat × Nat} (hb : b < B) (hblk : w.heap[b]? = some (.cells cs e fz)) (hr : off + xs.length ≤ cs.size)
    (hv : ∀ (i : Nat) a, xs[i]? = some a → ∃ v, cs[off + i]? = some v ∧ VR ρ a v) (ha : xs.all AV.atom = true) :
    ∃ ρ', ρ.le ρ' ∧ ρ' S.next 0 = some ⟨b, off, 0, xs.length, xs.length⟩ ∧ Sim B w0 ρ' (S.alloc (.cells xs 0 0 false)) w := by
  have hnone : ∀ u, ρ S.next u = none := fun u => by
    cases hq : ρ S.next u with
    | none => rfl
    | some L => exact absurd (h.fresh _ _ _ hq) (Nat.lt_irrefl _)
  have hle : ρ.le (fun o u => if o = S.next ∧ u = 0 then some ⟨b, off, 0, xs.length, xs.length⟩ else ρ o u) := by
    intro o u L e'
    by_cases ho : o = S.next ∧ u = 0
    · rw [ho.1, hnone] at e'; cases e'
    · simp only [if_neg ho]; exact e'
  have only : ∀ u L, (if S.next = S.next ∧ u = 0 then some (⟨b, off, 0, xs.length, xs.length⟩ : Loc) else ρ S.next u) = some L → u = 0 ∧ L = ⟨b, off, 0, xs.length, xs.length⟩ := by
    intro u L e'
    by_cases hu : u = 0
    · simp [hu] at e'; exact ⟨hu, e'.symm⟩
    · rw [if_neg (fun k => hu k.2), hnone] at e'; cases e'
  have hbw : b < w.heap.size := Nat.lt_of_lt_of_le hb h.base
  refine ⟨fun o u => if o = S.next ∧ u = 0 then some ⟨b, off, 0, xs.length, xs.length⟩ else ρ o u, hle, by simp, ?_⟩
  refine ⟨h.below, h.base, ?_, ?_, ?_, ?_, ?_, fun g y hg => by
    obtain ⟨h1, h2, h3⟩ := h.gh g y hg
    refine ⟨h1, h2, fun o u L e => ?_⟩
    by_cases ho : o = S.next
    · subst ho
      obtain ⟨_, rfl⟩ := only u L e
      show b ≠ g
      omega
    · have eL' : ρ o u = some L := by simpa [ho] using e
      exact h3 o u L eL'⟩
  · intro o u L eL
    by_cases ho : o = S.next
    · subst ho; simp [St.alloc]
    · have eL' : ρ o u = some L := by simpa [ho] using eL
      exact Nat.lt_of_lt_of_le (h.fresh o u L eL') (by simp [St.alloc])
  · intro o x eo
    rw [St.get_alloc] at eo
    by_cases ho : o = S.next
    · subst ho; simp [St.alloc]
    · rw [if_neg ho] at eo; exact Nat.lt_of_lt_of_le (h.dom o x eo) (by simp [St.alloc])
  · intro o u L eL
    by_cases ho : o = S.next
    · subst ho; obtain ⟨_, rfl⟩ := only u L eL; exact hbw
    · have eL' : ρ o u = some L := by simpa [ho] using eL
      exact h.heap o u L eL'
  · intro o x eo
    rw [St.get_alloc] at eo
    by_cases ho : o = S.next
    · rw [if_pos ho] at eo
      cases eo
      subst ho
      refine (show CellsAt B _ w S.next xs 0 0 false from ⟨?_, ?_, ?_, ?_, ?_, ha⟩)
      · intro u L eL; obtain ⟨rfl, _⟩ := only u L eL; exact Nat.le_refl _
      · intro L eL; obtain ⟨_, rfl⟩ := only 0 L eL; rfl
      · intro u L eL _
        obtain ⟨_, rfl⟩ := only u L eL
        refine ⟨Nat.le_refl _, by simp, cs, e, fz, hblk, hr, ?_, fun h => by cases h⟩
        intro i hi hi'
        have hlt : i < xs.length := hi'
        have hg : xs[i]? = some xs[i] := List.getElem?_eq_getElem hlt
        obtain ⟨v, h1, h2⟩ := hv i _ hg
        exact ⟨_, v, hg, by simpa [Loc.at] using h1, VR.mono hle h2⟩
      · intro u L eL; obtain ⟨_, rfl⟩ := only u L eL; simpa using hb
      · intro u L u' L' eL eL'; obtain ⟨_, rfl⟩ := only u L eL; obtain ⟨_, rfl⟩ := only u' L' eL'; exact fun _ => ⟨rfl, rfl⟩
    · rw [if_neg ho] at eo
      have hobj := h.obj o x eo
      have hρ : ∀ u, (if o = S.next ∧ u = 0 then some (⟨b, off, 0, xs.length, xs.length⟩ : Loc) else ρ o u) = ρ o u := fun u => if_neg fun k => ho k.1
      cases x with
      | cells c ver minv own =>
        have hc : CellsAt B ρ w o c ver minv own := hobj
        refine (show CellsAt B _ w o c ver minv own from ⟨?_, ?_, ?_, ?_, ?_, hc.atoms⟩)
        · intro u L eL; rw [hρ u] at eL; exact hc.vers u L eL
        · intro L eL; rw [hρ ver] at eL; exact hc.last L eL
        · intro u L eL hm
          rw [hρ u] at eL
          obtain ⟨h1, h2, cs', e', fz', h3, h4, h5, h6⟩ := hc.mem u L eL hm
          refine ⟨h1, h2, cs', e', fz', h3, h4, fun i hi hi' => ?_, h6⟩
          obtain ⟨a, v, ha', hv', hvr⟩ := h5 i hi hi'
          exact ⟨a, v, ha', hv', VR.mono hle hvr⟩
        · intro u L eL; rw [hρ u] at eL; exact hc.side u L eL
        · intro u L u' L' eL eL'; rw [hρ u] at eL; rw [hρ u'] at eL'; exact hc.align u L u' L' eL eL'
      | fork c ver minv g => exact (show ForkAt B _ w o c ver minv g from ForkAt.mono hobj hρ hle (fun _ _ _ => rfl))
      | map kk kv l c => exact (show MapAt B _ w o kk kv l c from MapAt.mono hobj hρ (fun _ _ _ => rfl))
      | iter s pos =>
        have hc : IterAt B ρ w o s pos := hobj
        refine (show IterAt B _ w o s pos from ⟨?_, ?_, ?_⟩)
        · intro u L eL; rw [hρ u] at eL; exact hc.side u L eL
        · intro u L eL; rw [hρ u] at eL; exact hc.mem u L eL
        · intro u L u' L' eL eL'; rw [hρ u] at eL; rw [hρ u'] at eL'; exact hc.uniq u L u' L' eL eL'
  · intro o u L o' u' L' eL eL' hne hB heq
    by_cases ho : o = S.next
    · subst ho; obtain ⟨_, rfl⟩ := only u L eL; simp only at hB; omega
    · have eL1 : ρ o u = some L := by simpa [ho] using eL
      by_cases ho' : o' = S.next
      · subst ho'; obtain ⟨_, rfl⟩ := only u' L' eL'; simp only at heq; omega
      · have eL2 : ρ o' u' = some L' := by simpa [ho'] using eL'
        exact h.apart o u L o' u' L' eL1 eL2 hne hB heq
end
/-- A whole call, from a state whose objects stand for what the arguments hold. -/
theorem call_true_in {P : Program} (hm : P.follows .mixedOrders = true) {X : Nat → List AV → Option AV} {AP : Nat → Option AFunc} (hX : XOk P X) (hAP : APOk P AP) {k f : Nat} {args : List AV} {S S' : St}
    (he : evF X AP k f args S = some (.bool true, S')) {W : World} {ρ : Rho} (hS : Sim W.heap.size W ρ S W) {cs : List Value} (hcs : VRs ρ args cs) :
    Calls P f cs.toArray W fun e W' => e = .returned (.bool true) ∧ Below W.heap.size W W' := by
  refine Calls.mono ((evF_sound hm hX hAP k f args S _ S' he).2 W.heap.size W ρ W cs hS hcs) ?_
  rintro e w' ⟨ρ', c, _, rfl, h2, h3⟩
  cases h2
  exact ⟨rfl, h3.below⟩
end Go.Proofs.YtajakdllbpnnpaaGreatA
