/- Top: a layer that is not watched rests when the grace is over: a publisher of 2 layers. -/
import Derived.Test.YtdppfdpmpekpnaaGreatRsA
set_option linter.unusedVariables false
set_option maxRecDepth 1000000
namespace Go.Proofs.YtdppfdpmpekpnaaGreatA
open Go.RowKit

theorem nR2 (n a b c d e us : Int) : (nrmR (R7 n a b c d e us 2) && (nfTr AV.nf (tmR (R7 n a b c d e us 2)) && nfTr nfA (stR (R7 n a b c d e us 2)).objs)) = true := by kernel_rfl
theorem aR2 (n a b c d e us : Int) : evC cR 300 (preC 1 (sufC 1 (sufC 2 af7.body))) (tmR (R7 n a b c d e us 2)) (stR (R7 n a b c d e us 2)) =
    some (.normal, (((tmR (R7 n a b c d e us 2)).set 21 (.int .i64 us)).set 22 (.int .i64 (U7 us))).set 7 (.int .i64 (U7 us)), stR (R7 n a b c d e us 2)) := by kernel_rfl
theorem rRa2 (n a b c d e us : Int) : (sp7a.all fun s => chk7 (tmR (R7 n a b c d e us 2)) (stR (R7 n a b c d e us 2)) us s) = true := by kernel_rfl
theorem rRb2 (n a b c d e us : Int) : (sp7b.all fun s => chk7 (tmR (R7 n a b c d e us 2)) (stR (R7 n a b c d e us 2)) us s) = true := by kernel_rfl
theorem rRc2 (n a b c d e us : Int) : (sp7c.all fun s => chk7 (tmR (R7 n a b c d e us 2)) (stR (R7 n a b c d e us 2)) us s) = true := by kernel_rfl
theorem rest2 {n us : Int} (hk : K7 n = 2) : EntryOk Tryz.prog 7 ∧ ∃ S2, Con Tryz.prog 7 [.int .i64 n, .int .i64 us] S0 (.bool true) S2 := by
  obtain ⟨a, b, c, d, e, h1⟩ := pre7 cR n us
  rw [hk] at h1
  have hn := nR2 n a b c d e us
  rw [Bool.and_eq_true, Bool.and_eq_true] at hn
  have h2 := seg hn.1
  have h3 := aR2 n a b c d e us
  have hsp : ∃ s : Sp, s.has (U7 us) ∧ chk7 (tmR (R7 n a b c d e us 2)) (stR (R7 n a b c d e us 2)) us s = true := by
    rcases sp7_of (U7_in us) with ⟨s, hs, hu⟩ | ⟨s, hs, hu⟩ | ⟨s, hs, hu⟩
    · exact ⟨s, hu, List.all_eq_true.1 (rRa2 n a b c d e us) s hs⟩
    · exact ⟨s, hu, List.all_eq_true.1 (rRb2 n a b c d e us) s hs⟩
    · exact ⟨s, hu, List.all_eq_true.1 (rRc2 n a b c d e us) s hs⟩
  obtain ⟨s, hu, hr⟩ := hsp
  refine con_sym hu (af := af7) rfl rfl (c := c7) (T1 := L7 (tmR (R7 n a b c d e us 2)) us) (S1 := stR (R7 n a b c d e us 2)) ?_ hr
  rw [nfS_g _ hn.2.2, L7_g _ us hn.2.1]
  exact (ev_split _ _ 2 _ _ _ _ _ h1).trans ((ev_split _ _ 1 _ _ _ _ _ h2).trans (ev_split _ _ 1 _ _ _ _ _ h3))
end Go.Proofs.YtdppfdpmpekpnaaGreatA
