/- Top: a layer that is not watched rests when the grace is over: a publisher of 3 layers. -/
import Derived.Test.YtdppfdpmpekpnaaGreatRsB
import Derived.Test.YtdppfdpmpekpnaaGreatRsC
import Derived.Test.YtdppfdpmpekpnaaGreatRsE
import Derived.Test.YtdppfdpmpekpnaaGreatRsF
set_option linter.unusedVariables false
set_option maxRecDepth 1000000
namespace Go.Proofs.YtdppfdpmpekpnaaGreatA
open Go.RowKit

theorem nR3 (n a b c d e us : Int) : (nrmR (R7 n a b c d e us 3) && (nfTr AV.nf (tmR (R7 n a b c d e us 3)) && nfTr nfA (stR (R7 n a b c d e us 3)).objs)) = true := by kernel_rfl
theorem aR3 (n a b c d e us : Int) : evC cR 300 (preC 1 (sufC 1 (sufC 2 af7.body))) (tmR (R7 n a b c d e us 3)) (stR (R7 n a b c d e us 3)) =
    some (.normal, (((tmR (R7 n a b c d e us 3)).set 21 (.int .i64 us)).set 22 (.int .i64 (U7 us))).set 7 (.int .i64 (U7 us)), stR (R7 n a b c d e us 3)) := by kernel_rfl
theorem rRc3 (n a b c d e us : Int) : (sp7c.all fun s => chk7 (tmR (R7 n a b c d e us 3)) (stR (R7 n a b c d e us 3)) us s) = true := by kernel_rfl
theorem rest3 {n us : Int} (hk : K7 n = 3) : EntryOk Tryz.prog 7 ∧ ∃ S2, Con Tryz.prog 7 [.int .i64 n, .int .i64 us] S0 (.bool true) S2 := by
  obtain ⟨a, b, c, d, e, h1⟩ := pre7 cR n us
  rw [hk] at h1
  have hn := nR3 n a b c d e us
  rw [Bool.and_eq_true, Bool.and_eq_true] at hn
  have h2 := seg hn.1
  have h3 := aR3 n a b c d e us
  have hsp : ∃ s : Sp, s.has (U7 us) ∧ chk7 (tmR (R7 n a b c d e us 3)) (stR (R7 n a b c d e us 3)) us s = true := by
    rcases sp7_of (U7_in us) with ⟨s, hs, hu⟩ | ⟨s, hs, hu⟩ | ⟨s, hs, hu⟩
    · exact ⟨s, hu, List.all_eq_true.1 (rRa3 n a b c d e us) s hs⟩
    · exact ⟨s, hu, List.all_eq_true.1 (rRb3 n a b c d e us) s hs⟩
    · exact ⟨s, hu, List.all_eq_true.1 (rRc3 n a b c d e us) s hs⟩
  obtain ⟨s, hu, hr⟩ := hsp
  refine con_sym hu (af := af7) rfl rfl (c := c7) (T1 := L7 (tmR (R7 n a b c d e us 3)) us) (S1 := stR (R7 n a b c d e us 3)) ?_ hr
  rw [nfS_g _ hn.2.2, L7_g _ us hn.2.1]
  exact (ev_split _ _ 2 _ _ _ _ _ h1).trans ((ev_split _ _ 1 _ _ _ _ _ h2).trans (ev_split _ _ 1 _ _ _ _ _ h3))
theorem rest (n us : Int) : EntryOk Tryz.prog 7 ∧ ∃ S2, Con Tryz.prog 7 [.int .i64 n, .int .i64 us] S0 (.bool true) S2 := by
  rcases k3 n with h | h | h
  · exact rest1 h
  · exact rest2 h
  · exact rest3 h
def XR : Nat → List AV → Option AV := addX X0 7 (sN2 .i64 .i64 fun _ _ => .bool true)
theorem okR : XOk Tryz.prog XR := by
  intro f args v h
  unfold XR addX at h
  by_cases hf : f = 7
  · rw [if_pos hf] at h
    subst hf
    unfold sN2 at h
    split at h
    · split at h
      · rename_i j1 a j2 b hj
        obtain ⟨rfl, rfl⟩ := hj
        cases h
        obtain ⟨h1, S2, h2⟩ := rest a b
        exact ⟨h1, con_pure rfl rfl h2⟩
      · cases h
    · cases h
  · rw [if_neg hf] at h; cases h
theorem lawR {n us : Int} (_ : (Lit.int .i64 n).wf = true) (_ : (Lit.int .i64 us).wf = true) : ∃ S', evF XR AP (0 + 1) 7 [.int .i64 n, .int .i64 us] S0 = some (.bool true, S') := ⟨S0, rfl⟩
end Go.Proofs.YtdppfdpmpekpnaaGreatA
