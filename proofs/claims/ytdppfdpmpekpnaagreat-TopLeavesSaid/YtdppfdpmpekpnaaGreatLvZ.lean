/- Top: as a publisher leaves its watchers are given nothing of it: three closed cases. -/
import Derived.Test.YtdppfdpmpekpnaaGreatLvY
set_option linter.unusedVariables false
set_option maxRecDepth 1000000
namespace Go.Proofs.YtdppfdpmpekpnaaGreatA
open Go.RowKit

def K5 (n : Int) : Int := IntKind.i64.wrap (1 + (IntKind.i64.wrap (n.tmod 3 + 3)).tmod 3)
theorem k3 (n : Int) : K5 n = 1 ∨ K5 n = 2 ∨ K5 n = 3 := by
  have h : n.tmod 3 = -2 ∨ n.tmod 3 = -1 ∨ n.tmod 3 = 0 ∨ n.tmod 3 = 1 ∨ n.tmod 3 = 2 := by
    have h1 := Int.tmod_lt_of_pos n (show (0 : Int) < 3 by decide)
    have h2 := Int.lt_tmod_of_pos n (show (0 : Int) < 3 by decide)
    omega
  unfold K5
  rcases h with h | h | h | h | h <;> rw [h] <;> decide
def T5 (x0 x8 x9 x10 x11 x12 : AV) (K : Int) : Tm :=
  (((((((setArgs [x0] 0 .lf).set 2 (.bool false)).set 8 x8).set 9 x9).set 10 x10).set 11 x11).set 12 x12).set 3 (.int .i64 K)
theorem pre5 (call : Cal) (n : Int) : ∃ x0 x8 x9 x10 x11 x12, evC call 300 (preC 2 af5.body) (setArgs [.int .i64 n] 0 .lf) S0 = some (.normal, T5 x0 x8 x9 x10 x11 x12 (K5 n), S0) :=
  ⟨.int .i64 n, .int .i64 n, .int .i64 (n.tmod 3), .int .i64 (IntKind.i64.wrap (n.tmod 3 + 3)), .int .i64 ((IntKind.i64.wrap (n.tmod 3 + 3)).tmod 3), .int .i64 (K5 n), by kernel_rfl⟩
theorem Lv_r0 (x0 x8 x9 x10 x11 x12 : AV) : rootChk af5.results (.bool true) (evCK Lv_c0 300 (sufC 2 af5.body) (T5 x0 x8 x9 x10 x11 x12 1) S0) = true := by kernel_rfl
theorem Lv_r1 (x0 x8 x9 x10 x11 x12 : AV) : rootChk af5.results (.bool true) (evCK Lv_c1 300 (sufC 2 af5.body) (T5 x0 x8 x9 x10 x11 x12 2) S0) = true := by kernel_rfl
theorem Lv_r2 (x0 x8 x9 x10 x11 x12 : AV) : rootChk af5.results (.bool true) (evCK Lv_c2 300 (sufC 2 af5.body) (T5 x0 x8 x9 x10 x11 x12 3) S0) = true := by kernel_rfl
theorem leaves (n : Int) : EntryOk Tryz.prog 5 ∧ ∃ S2, Con Tryz.prog 5 [.int .i64 n] S0 (.bool true) S2 := by
  rcases k3 n with h | h | h
  · obtain ⟨x0, x8, x9, x10, x11, x12, h1⟩ := pre5 Lv_c0 n
    rw [h] at h1
    exact con_fin mixed Lv_ok0 apOk (af := af5) rfl rfl (k := 300) (ev_split _ _ 2 _ _ _ _ _ h1) (Lv_r0 ..)
  · obtain ⟨x0, x8, x9, x10, x11, x12, h1⟩ := pre5 Lv_c1 n
    rw [h] at h1
    exact con_fin mixed Lv_ok1 apOk (af := af5) rfl rfl (k := 300) (ev_split _ _ 2 _ _ _ _ _ h1) (Lv_r1 ..)
  · obtain ⟨x0, x8, x9, x10, x11, x12, h1⟩ := pre5 Lv_c2 n
    rw [h] at h1
    exact con_fin mixed Lv_ok2 apOk (af := af5) rfl rfl (k := 300) (ev_split _ _ 2 _ _ _ _ _ h1) (Lv_r2 ..)
def XL : Nat → List AV → Option AV := addX X0 5 (sN1 .i64 fun _ => .bool true)
theorem okL : XOk Tryz.prog XL := by
  intro f args v h
  unfold XL addX at h
  by_cases hf : f = 5
  · rw [if_pos hf] at h
    subst hf
    unfold sN1 at h
    split at h
    · split at h
      · rename_i j1 a hj
        subst hj
        cases h
        obtain ⟨h1, S2, h2⟩ := leaves a
        exact ⟨h1, con_pure rfl rfl h2⟩
      · cases h
    · cases h
  · rw [if_neg hf] at h; cases h
theorem lawL {n : Int} (_ : (Lit.int .i64 n).wf = true) : ∃ S', evF XL AP (0 + 1) 5 [.int .i64 n] S0 = some (.bool true, S') := ⟨S0, rfl⟩
end Go.Proofs.YtdppfdpmpekpnaaGreatA
