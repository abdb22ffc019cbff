/- Top: awake() is true. -/
import Derived.Test.YtjfbdiomcljbeaaGreatTkA
import Derived.Test.YtjfbdiomcljbeaaGreatMzZ
set_option linter.unusedVariables false
namespace Go.Proofs.YtjfbdiomcljbeaaGreatA
open Go.RowKit
theorem awake_con : Con Tryz.prog 13 [] S0 (.bool true) (stOf Mz_o0 Mz_e0.m) := Mz_t0.2
theorem okT : XOk Tryz.prog XT := by
  intro f args v h
  unfold XT addX at h
  by_cases hf : f = 13
  · rw [if_pos hf] at h
    subst hf
    cases args with
    | nil => cases h; exact ⟨Mz_t0.1, con_pure rfl rfl awake_con⟩
    | cons a r => cases h
  · rw [if_neg hf] at h; cases h
end Go.Proofs.YtjfbdiomcljbeaaGreatA
