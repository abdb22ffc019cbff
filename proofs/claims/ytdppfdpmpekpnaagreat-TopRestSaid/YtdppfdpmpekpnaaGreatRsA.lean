/- Top: a layer that is not watched rests when the grace is over: what is before the time goes by. -/
import Derived.Test.YtdppfdpmpekpnaaGreatSyM
set_option linter.unusedVariables false
set_option maxRecDepth 1000000
namespace Go.Proofs.YtdppfdpmpekpnaaGreatA
open Go.RowKit

def K7 (n : Int) : Int := IntKind.i64.wrap (1 + (IntKind.i64.wrap (n.tmod 3 + 3)).tmod 3)
theorem k3 (n : Int) : K7 n = 1 ∨ K7 n = 2 ∨ K7 n = 3 := by
  have h : n.tmod 3 = -2 ∨ n.tmod 3 = -1 ∨ n.tmod 3 = 0 ∨ n.tmod 3 = 1 ∨ n.tmod 3 = 2 := by
    have h1 := Int.tmod_lt_of_pos n (show (0 : Int) < 3 by decide)
    have h2 := Int.lt_tmod_of_pos n (show (0 : Int) < 3 by decide)
    omega
  unfold K7
  rcases h with h | h | h | h | h <;> rw [h] <;> decide
def ln : AV := .float .f64 178405961588244985146792856016562442144317443
theorem ln_g (u : Int) : gV u ln = .int .i64 u := by
  have h : decL 178405961588244985146792856016562442144317443 = ⟨.i64, 0, 1⟩ := by kernel_rfl
  unfold ln
  rw [g_f64, h]
  show AV.int .i64 (0 + 1 * u) = _
  rw [Int.zero_add, Int.one_mul]
noncomputable def cR : Cal := evFK XF AP 300
def T7 (n a b c d e us : Int) (K : Int) : Tm :=
  (((((((setArgs [.int .i64 n, .int .i64 us] 0 .lf).set 4 (.bool false)).set 14 (.int .i64 a)).set 15 (.int .i64 b)).set 16 (.int .i64 c)).set 17 (.int .i64 d)).set 18 (.int .i64 e)).set 5 (.int .i64 K)
theorem pre7 (call : Cal) (n us : Int) : ∃ a b c d e, evC call 300 (preC 2 af7.body) (setArgs [.int .i64 n, .int .i64 us] 0 .lf) S0 = some (.normal, T7 n a b c d e us (K7 n), S0) :=
  ⟨n, n.tmod 3, IntKind.i64.wrap (n.tmod 3 + 3), (IntKind.i64.wrap (n.tmod 3 + 3)).tmod 3, K7 n, by kernel_rfl⟩
noncomputable def R7 (n a b c d e us : Int) (K : Int) : RC := evCK cR 300 (preC 1 (sufC 2 af7.body)) (T7 n a b c d e us K) S0
def U7 (us : Int) : Int := Go.bits .and .i64 us 1048575
theorem U7_in (us : Int) : 0 ≤ U7 us ∧ U7 us ≤ 1048575 := by
  have h : U7 us = us % 1048576 := and_i64 20 (by decide) us
  omega
def sp7a : List Sp := [⟨0, 99999⟩, ⟨100000, 199999⟩, ⟨200000, 299999⟩, ⟨300000, 399999⟩]
def sp7b : List Sp := [⟨400000, 499999⟩, ⟨500000, 599999⟩, ⟨600000, 699999⟩, ⟨700000, 799999⟩]
def sp7c : List Sp := [⟨800000, 899999⟩, ⟨900000, 999999⟩, ⟨1000000, 1048575⟩]
theorem sp7_of {u : Int} (h : 0 ≤ u ∧ u ≤ 1048575) : (∃ s ∈ sp7a, s.has u) ∨ (∃ s ∈ sp7b, s.has u) ∨ (∃ s ∈ sp7c, s.has u) := by
  simp only [sp7a, sp7b, sp7c, List.mem_cons, List.not_mem_nil, or_false, exists_eq_or_imp, exists_eq_left, Sp.has]
  omega
def c7 : AC := sufC 1 (sufC 1 (sufC 2 af7.body))
def L7 (T : Tm) (us : Int) : Tm := ((T.set 21 (.int .i64 us)).set 22 ln).set 7 ln
theorem L7_g (T : Tm) (us : Int) (h : nfTr AV.nf T = true) : gT (U7 us) (L7 T us) = ((T.set 21 (.int .i64 us)).set 22 (.int .i64 (U7 us))).set 7 (.int .i64 (U7 us)) := by
  unfold L7
  rw [gT_set, gT_set, gT_set, nfT_g _ h, ln_g, g_int]
noncomputable def chk7 (T : Tm) (S : St) (us : Int) (s : Sp) : Bool := rootChk af7.results (.bool true) (evCS s (evFS s (Xs s) nX AP 300) 300 c7 (L7 T us) S)
end Go.Proofs.YtdppfdpmpekpnaaGreatA
