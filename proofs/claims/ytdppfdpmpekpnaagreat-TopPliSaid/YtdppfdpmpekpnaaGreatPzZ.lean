/- Top: a watcher that asks for a key has its publisher asked: six closed cases. -/
import Derived.Test.YtdppfdpmpekpnaaGreatPzY
set_option linter.unusedVariables false
set_option maxRecDepth 1000000
namespace Go.Proofs.YtdppfdpmpekpnaaGreatA
open Go.RowKit

def T7 (x0 x12 x13 x14 x15 x16 : AV) (b : Bool) (K : Int) : Tm :=
  (((((((setArgs [x0, .bool b] 0 .lf).set 4 (.bool false)).set 12 x12).set 13 x13).set 14 x14).set 15 x15).set 16 x16).set 5 (.int .i64 K)
theorem pre7 (call : Cal) (n : Int) (b : Bool) : evC call 300 (preC 2 af3.body) (setArgs [.int .i64 n, .bool b] 0 .lf) S0 =
    some (.normal, T7 (.int .i64 n) (.int .i64 n) (.int .i64 (n.tmod 3)) (.int .i64 (IntKind.i64.wrap (n.tmod 3 + 3))) (.int .i64 ((IntKind.i64.wrap (n.tmod 3 + 3)).tmod 3)) (.int .i64 (IntKind.i64.wrap (1 + (IntKind.i64.wrap (n.tmod 3 + 3)).tmod 3))) b (IntKind.i64.wrap (1 + (IntKind.i64.wrap (n.tmod 3 + 3)).tmod 3)), S0) := by kernel_rfl
theorem k3 (n : Int) : (IntKind.i64.wrap (1 + (IntKind.i64.wrap (n.tmod 3 + 3)).tmod 3)) = 1 ∨ (IntKind.i64.wrap (1 + (IntKind.i64.wrap (n.tmod 3 + 3)).tmod 3)) = 2 ∨ (IntKind.i64.wrap (1 + (IntKind.i64.wrap (n.tmod 3 + 3)).tmod 3)) = 3 := by
  have h : n.tmod 3 = -2 ∨ n.tmod 3 = -1 ∨ n.tmod 3 = 0 ∨ n.tmod 3 = 1 ∨ n.tmod 3 = 2 := by
    have h1 := Int.tmod_lt_of_pos n (show (0 : Int) < 3 by decide)
    have h2 := Int.lt_tmod_of_pos n (show (0 : Int) < 3 by decide)
    omega
  rcases h with h | h | h | h | h <;> rw [h] <;> decide
theorem Pz_r0f (x0 x12 x13 x14 x15 x16 : AV) : rootChk af3.results (.bool true) (evCK Pz_c0f 300 (sufC 2 af3.body) (T7 x0 x12 x13 x14 x15 x16 false 1) S0) = true := by kernel_rfl
theorem Pz_r0t (x0 x12 x13 x14 x15 x16 : AV) : rootChk af3.results (.bool true) (evCK Pz_c0t 300 (sufC 2 af3.body) (T7 x0 x12 x13 x14 x15 x16 true 1) S0) = true := by kernel_rfl
theorem Pz_r1f (x0 x12 x13 x14 x15 x16 : AV) : rootChk af3.results (.bool true) (evCK Pz_c1f 300 (sufC 2 af3.body) (T7 x0 x12 x13 x14 x15 x16 false 2) S0) = true := by kernel_rfl
theorem Pz_r1t (x0 x12 x13 x14 x15 x16 : AV) : rootChk af3.results (.bool true) (evCK Pz_c1t 300 (sufC 2 af3.body) (T7 x0 x12 x13 x14 x15 x16 true 2) S0) = true := by kernel_rfl
theorem Pz_r2f (x0 x12 x13 x14 x15 x16 : AV) : rootChk af3.results (.bool true) (evCK Pz_c2f 300 (sufC 2 af3.body) (T7 x0 x12 x13 x14 x15 x16 false 3) S0) = true := by kernel_rfl
theorem Pz_r2t (x0 x12 x13 x14 x15 x16 : AV) : rootChk af3.results (.bool true) (evCK Pz_c2t 300 (sufC 2 af3.body) (T7 x0 x12 x13 x14 x15 x16 true 3) S0) = true := by kernel_rfl
theorem pli (n : Int) (b : Bool) : EntryOk Tryz.prog 3 ∧ ∃ S2, Con Tryz.prog 3 [.int .i64 n, .bool b] S0 (.bool true) S2 := by
  rcases k3 n with h | h | h <;> cases b
  · have h1 := pre7 Pz_c0f n false
    rw [h] at h1
    exact con_fin mixed Pz_ok0f apOk (af := af3) rfl rfl (k := 300) (ev_split _ _ 2 _ _ _ _ _ h1) (Pz_r0f ..)
  · have h1 := pre7 Pz_c0t n true
    rw [h] at h1
    exact con_fin mixed Pz_ok0t apOk (af := af3) rfl rfl (k := 300) (ev_split _ _ 2 _ _ _ _ _ h1) (Pz_r0t ..)
  · have h1 := pre7 Pz_c1f n false
    rw [h] at h1
    exact con_fin mixed Pz_ok1f apOk (af := af3) rfl rfl (k := 300) (ev_split _ _ 2 _ _ _ _ _ h1) (Pz_r1f ..)
  · have h1 := pre7 Pz_c1t n true
    rw [h] at h1
    exact con_fin mixed Pz_ok1t apOk (af := af3) rfl rfl (k := 300) (ev_split _ _ 2 _ _ _ _ _ h1) (Pz_r1t ..)
  · have h1 := pre7 Pz_c2f n false
    rw [h] at h1
    exact con_fin mixed Pz_ok2f apOk (af := af3) rfl rfl (k := 300) (ev_split _ _ 2 _ _ _ _ _ h1) (Pz_r2f ..)
  · have h1 := pre7 Pz_c2t n true
    rw [h] at h1
    exact con_fin mixed Pz_ok2t apOk (af := af3) rfl rfl (k := 300) (ev_split _ _ 2 _ _ _ _ _ h1) (Pz_r2t ..)
def s7 (l : List AV) : Option AV := match l with
  | [.int .i64 _, .bool _] => some (.bool true)
  | _ => none
def XP : Nat → List AV → Option AV := addX X0 3 s7
theorem okP : XOk Tryz.prog XP := by
  intro f args v h
  unfold XP addX at h
  by_cases hf : f = 3
  · rw [if_pos hf] at h
    subst hf
    unfold s7 at h
    split at h
    · rename_i a b
      cases h
      obtain ⟨h1, S2, h2⟩ := pli a b
      exact ⟨h1, con_pure rfl rfl h2⟩
    · cases h
  · rw [if_neg hf] at h; cases h
theorem law7 {n : Int} (_ : (Lit.int .i64 n).wf = true) (b : Bool) : ∃ S', evF XP AP (0 + 1) 3 [.int .i64 n, .bool b] S0 = some (.bool true, S') := ⟨S0, rfl⟩
end Go.Proofs.YtdppfdpmpekpnaaGreatA
