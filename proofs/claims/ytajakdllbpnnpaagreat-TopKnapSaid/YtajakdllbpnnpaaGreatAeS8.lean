/- An abstract evaluator, what is used with it: an argument's length is bounded by what a machine holds. -/
import Derived.Test.YtajakdllbpnnpaaGreatAeS7
import Derived.SizedLaws
set_option linter.unusedVariables false
set_option linter.unusedSimpArgs false
namespace Go.Proofs.YtajakdllbpnnpaaGreatA
open Go.RowKit

theorem arg_room {H : Type} {enc : TypeId × Value → H} {P : Program} {w : World} {held : Bool} {ρ : Rho} {s : Option (Nat × Nat × Nat)} {len esz : Nat} {v : Value} (vr : VR ρ (.slice s len esz none) v)
    {t e : TypeId} (ht : P.underlying t = some (.slice e)) {d : DataW H} {ps : List MemPlace} (hd : DataW.Trod enc P w 0 (fun _ => true) held t v d ps) {ts : List TypeId} {ds : List (DataW H)} {j : Nat}
    (hsz : (DataW.weightsEach P ts ds).all (· ≤ reachBytes) = true) (hj : ts[j]? = some t) (hdj : ds[j]? = some d) : len * P.bytesOf e ≤ 140737488351232 := by
  obtain ⟨fuel, hf⟩ := hd
  have key : ∀ (a : Option Addr) (cap : Nat), v = .slice a len cap → len * P.bytesOf e ≤ 140737488351232 := by
    rintro a cap rfl
    rcases Go.Deep.open_slice ht hf with ⟨hcs, _⟩ | ⟨a', len', cap', m, fu, D, Pl, hcs, _, hl, hm, hmm, hx, _⟩
    · simp [Value.cells] at hcs
      obtain ⟨_, rfl, _⟩ := hcs
      simp
    · simp [Value.cells] at hcs
      obtain ⟨rfl, rfl, rfl⟩ := hcs
      simp only [Prod.mk.injEq] at hx
      obtain ⟨rfl, _⟩ := hx
      have h := sized_slice hsz hj hdj ht
      simp only [List.length_map, List.length_range] at h
      have h2 : len * P.bytesOf e ≤ (len + (m - len)) * P.bytesOf e := Nat.mul_le_mul_right _ (by omega)
      exact Nat.le_trans h2 (Nat.le_trans h (by decide))
  cases vr with
  | sliceNil => exact key _ _ rfl
  | slice => exact key _ _ rfl
end Go.Proofs.YtajakdllbpnnpaaGreatA
