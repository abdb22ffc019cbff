/- Top: a layer that is sent no more lives so long, and is given no more then. -/
import Derived.Test.YtdppfdpmpekpnaaGreatSyM
set_option linter.unusedVariables false
set_option maxRecDepth 1000000
namespace Go.Proofs.YtdppfdpmpekpnaaGreatA
open Go.RowKit

def ln : AV := .float .f64 178405961588244985146792856016562442144317443
theorem ln_g (u : Int) : gV u ln = .int .i64 u := by
  have h : decL 178405961588244985146792856016562442144317443 = ⟨.i64, 0, 1⟩ := by kernel_rfl
  unfold ln
  rw [g_f64, h]
  show AV.int .i64 (0 + 1 * u) = _
  rw [Int.zero_add, Int.one_mul]
noncomputable def cR : Cal := evFK XF AP 300
noncomputable def R8 (us : Int) : RC := evCK cR 300 (preC 4 af8.body) (setArgs [.int .i64 us] 0 .lf) S0
def U8 (us : Int) : Int := Go.bits .and .i64 us 524287
theorem U8_in (us : Int) : 0 ≤ U8 us ∧ U8 us ≤ 524287 := by
  have h : U8 us = us % 524288 := and_i64 19 (by decide) us
  omega
def sp8 : List Sp := [⟨0, 0⟩, ⟨1, 99999⟩, ⟨100000, 199999⟩, ⟨200000, 299999⟩, ⟨300000, 499999⟩, ⟨500000, 524287⟩]
theorem sp8_of {u : Int} (h : 0 ≤ u ∧ u ≤ 524287) : ∃ s ∈ sp8, s.has u := by
  simp only [sp8, List.mem_cons, List.not_mem_nil, or_false, exists_eq_or_imp, exists_eq_left, Sp.has]
  omega
def c8 : AC := sufC 1 (sufC 4 af8.body)
def L8 (T : Tm) (us : Int) : Tm := ((T.set 12 (.int .i64 us)).set 13 ln).set 4 ln
theorem L8_g (T : Tm) (us : Int) (h : nfTr AV.nf T = true) : gT (U8 us) (L8 T us) = ((T.set 12 (.int .i64 us)).set 13 (.int .i64 (U8 us))).set 4 (.int .i64 (U8 us)) := by
  unfold L8
  rw [gT_set, gT_set, gT_set, nfT_g _ h, ln_g, g_int]
noncomputable def chk8 (T : Tm) (S : St) (us : Int) (s : Sp) : Bool := rootChk af8.results (.bool true) (evCS s (evFS s (Xs s) nX AP 300) 300 c8 (L8 T us) S)
theorem nS8 (us : Int) : (nrmR (R8 us) && (nfTr AV.nf (tmR (R8 us)) && nfTr nfA (stR (R8 us)).objs)) = true := by kernel_rfl
theorem aS8 (us : Int) : evC cR 300 (preC 1 (sufC 4 af8.body)) (tmR (R8 us)) (stR (R8 us)) =
    some (.normal, (((tmR (R8 us)).set 12 (.int .i64 us)).set 13 (.int .i64 (U8 us))).set 4 (.int .i64 (U8 us)), stR (R8 us)) := by kernel_rfl
theorem rS8 (us : Int) : (sp8.all fun s => chk8 (tmR (R8 us)) (stR (R8 us)) us s) = true := by kernel_rfl
theorem silent (us : Int) : EntryOk Tryz.prog 8 ∧ ∃ S2, Con Tryz.prog 8 [.int .i64 us] S0 (.bool true) S2 := by
  have hn := nS8 us
  rw [Bool.and_eq_true, Bool.and_eq_true] at hn
  have h2 := seg hn.1
  have h3 := aS8 us
  obtain ⟨s, hs, hu⟩ := sp8_of (U8_in us)
  have hr := List.all_eq_true.1 (rS8 us) s hs
  refine con_sym hu (af := af8) rfl rfl (c := c8) (T1 := L8 (tmR (R8 us)) us) (S1 := stR (R8 us)) ?_ hr
  rw [nfS_g _ hn.2.2, L8_g _ us hn.2.1]
  exact (ev_split _ _ 4 _ _ _ _ _ h2).trans (ev_split _ _ 1 _ _ _ _ _ h3)
def XS : Nat → List AV → Option AV := addX X0 8 (sN1 .i64 fun _ => .bool true)
theorem okS : XOk Tryz.prog XS := by
  intro f args v h
  unfold XS addX at h
  by_cases hf : f = 8
  · rw [if_pos hf] at h
    subst hf
    unfold sN1 at h
    split at h
    · split at h
      · rename_i j1 a hj
        subst hj
        cases h
        obtain ⟨h1, S2, h2⟩ := silent a
        exact ⟨h1, con_pure rfl rfl h2⟩
      · cases h
    · cases h
  · rw [if_neg hf] at h; cases h
theorem lawS {us : Int} (_ : (Lit.int .i64 us).wf = true) : ∃ S', evF XS AP (0 + 1) 8 [.int .i64 us] S0 = some (.bool true, S') := ⟨S0, rfl⟩
end Go.Proofs.YtdppfdpmpekpnaaGreatA
