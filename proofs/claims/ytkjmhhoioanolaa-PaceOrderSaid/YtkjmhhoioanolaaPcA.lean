/- Chapter 11: what the bucket's functions come to. -/
import Derived.Test.YtkjmhhoioanolaaClkP
import Derived.Test.YtkjmhhoioanolaaAeS6
set_option linter.unusedVariables false
set_option linter.unusedSimpArgs false
set_option maxRecDepth 10000
namespace Go.Proofs.YtkjmhhoioanolaaA
open Go.RowKit
attribute [local congr] bind_congr1 map_congr1 cond_congr1 withX_congr after_congr br_congr gd_congr

def held (n : Int) : Int := if 0 < (if 1099511627776 < n then 1099511627776 else n) then (if 1099511627776 < n then 1099511627776 else n) else 0
theorem held_bd (n : Int) : 0 ≤ held n ∧ held n ≤ 1099511627776 := by unfold held; split <;> split <;> omega
theorem held_id {n : Int} (h0 : 0 ≤ n) (h1 : n ≤ 1099511627776) : held n = n := by unfold held; split <;> split <;> omega
def nSum (a b : Int) : AV := .int .i64 (mn (up a + up b) M63)
def nMul (a b : Int) : AV := .int .i64 (mn (up a * up b) M63)
theorem ev32 (n : Int) : evF X0 AP 3 32 [.int .i64 n] S0 = some (.int .i64 (held n), S0) := by
  rw [evF_body (af := af32) rfl rfl rfl]
  simp -implicitDefEqProofs -dsimp (maxSteps := 10000000) only [af32, ops_nil, ops_some, ops_none, oper_none, oper_some, gd_tt, gd_ff, gd_tf, gd_ft, gd_undef, ↓any_op, ↓any_call, ↓any_callV, ↓any_invoke, xo_t, xo_c, args_nil, args_cons, bin_add, bin_sub, bin_mul, bin_quo, bin_rem, bin_and, bin_or, bin_xor, bin_andNot, bin_eql, bin_neq, bin_lss, bin_leq, bin_gtr, bin_geq, bin_shl, bin_shr, bin_bools, bin_strs, bin_ptrs, bin_slices, bin_aggs, ↓Option.bind_some, ↓Option.map_some, ↓cond_true, ↓cond_false, evC, evOp, XO.lit, setArgs, Tr.tabG, Tr.tabS, Tr.tabL, Tr.get_lf, Option.bind_some, Option.map_some, cond_true, cond_false, maxI, maxFrom, minI, minFrom, aConv, aBinE, aEq, eqScal, aUn, evRes, fin, oneOf, if_true, if_false, callee, evF_eq, withX_some, withX_none, addX, X0, sN0, sN1, sN2, sN3, sN4, reduceCtorEq, Nat.reduceEqDiff, and_self, decide_true, decide_false, beq_true, beq_false, Bool.not_true, Bool.not_false, List.getElem?_cons_zero, List.getElem?_cons_succ, beq_self_eq_true, gt_iff_lt, ble_dec, beq_dec, List.head?_cons, AV.undef, eq_self, ne_eq, not_true_eq_false, not_false_eq_true, Int.reduceLT, Int.reduceLE, Int.reduceToNat, Int.reduceEq, Int.reduceNeg, Nat.reduceAdd, Nat.reduceLT, Nat.reduceLeDiff, Nat.reduceMul, Nat.reduceSub]
  rfl
theorem ev40 (n : Int) : evF X0 AP 3 40 [.int .i64 n] S0 = some (.int .i64 (held n), S0) := by
  rw [evF_body (af := af40) rfl rfl rfl]
  simp -implicitDefEqProofs -dsimp (maxSteps := 10000000) only [af40, ops_nil, ops_some, ops_none, oper_none, oper_some, gd_tt, gd_ff, gd_tf, gd_ft, gd_undef, ↓any_op, ↓any_call, ↓any_callV, ↓any_invoke, xo_t, xo_c, args_nil, args_cons, bin_add, bin_sub, bin_mul, bin_quo, bin_rem, bin_and, bin_or, bin_xor, bin_andNot, bin_eql, bin_neq, bin_lss, bin_leq, bin_gtr, bin_geq, bin_shl, bin_shr, bin_bools, bin_strs, bin_ptrs, bin_slices, bin_aggs, ↓Option.bind_some, ↓Option.map_some, ↓cond_true, ↓cond_false, evC, evOp, XO.lit, setArgs, Tr.tabG, Tr.tabS, Tr.tabL, Tr.get_lf, Option.bind_some, Option.map_some, cond_true, cond_false, maxI, maxFrom, minI, minFrom, aConv, aBinE, aEq, eqScal, aUn, evRes, fin, oneOf, if_true, if_false, callee, evF_eq, withX_some, withX_none, addX, X0, sN0, sN1, sN2, sN3, sN4, reduceCtorEq, Nat.reduceEqDiff, and_self, decide_true, decide_false, beq_true, beq_false, Bool.not_true, Bool.not_false, List.getElem?_cons_zero, List.getElem?_cons_succ, beq_self_eq_true, gt_iff_lt, ble_dec, beq_dec, List.head?_cons, AV.undef, eq_self, ne_eq, not_true_eq_false, not_false_eq_true, Int.reduceLT, Int.reduceLE, Int.reduceToNat, Int.reduceEq, Int.reduceNeg, Nat.reduceAdd, Nat.reduceLT, Nat.reduceLeDiff, Nat.reduceMul, Nat.reduceSub]
  congr 3
  unfold held
  split <;> split <;> split <;> omega
theorem addX_any {X Y : Nat → List AV → Option AV} (hX : XOk Try.prog X) (hY : XOk Try.prog Y) {g : Nat} {s : List AV → Option AV} (h : XOk Try.prog (addX Y g s)) : XOk Try.prog (addX X g s) := by
  intro f args v hv
  unfold addX at hv
  by_cases hf : f = g
  · rw [if_pos hf] at hv
    exact h f args v (by unfold addX; rw [if_pos hf]; exact hv)
  · rw [if_neg hf] at hv
    exact hX f args v hv
def Y1 := addX X3 34 (sN2 .i64 .i64 nSum)
def Y2 := addX Y1 33 (sN2 .i64 .i64 nMul)
def Y4 := addX Y2 37 (sN2 .i64 .i64 nSum)
def Y5 := addX Y4 38 (sN2 .i64 .i64 nMul)
def Y7 := addX Y5 32 (sN1 .i64 fun n => .int .i64 (held n))
def Y8 := addX Y7 40 (sN1 .i64 fun n => .int .i64 (held n))
def Y := addX Y8 13 (sN0 (.bool true))
theorem yk1 : XOk Try.prog Y1 := addX_N2 mixed ok3 apOk (entry_of apOk (af := af34) rfl) (fun _ _ => rfl) fun a b wa wb => ⟨3, S0, ev34 (wf_i64 wa) (wf_i64 wb)⟩
theorem yk2 : XOk Try.prog Y2 := addX_any yk1 ok3 (addX_N2 mixed ok3 apOk (entry_of apOk (af := af33) rfl) (fun _ _ => rfl) fun a b wa wb => ⟨3, S0, ev33 (wf_i64 wa) (wf_i64 wb)⟩)
theorem yk4 : XOk Try.prog Y4 := addX_any yk2 ok3 (addX_N2 mixed ok3 apOk (entry_of apOk (af := af37) rfl) (fun _ _ => rfl) fun a b wa wb => ⟨3, S0, ev37 (wf_i64 wa) (wf_i64 wb)⟩)
theorem yk5 : XOk Try.prog Y5 := addX_any yk4 ok3 (addX_N2 mixed ok3 apOk (entry_of apOk (af := af38) rfl) (fun _ _ => rfl) fun a b wa wb => ⟨3, S0, ev38 (wf_i64 wa) (wf_i64 wb)⟩)
theorem yk7 : XOk Try.prog Y7 := addX_any yk5 (X0_ok _) (addX_N1 mixed (X0_ok _) apOk (entry_of apOk (af := af32) rfl) (fun _ => rfl) fun a wa => ⟨3, S0, ev32 a⟩)
theorem yk8 : XOk Try.prog Y8 := addX_any yk7 (X0_ok _) (addX_N1 mixed (X0_ok _) apOk (entry_of apOk (af := af40) rfl) (fun _ => rfl) fun a wa => ⟨3, S0, ev40 a⟩)
theorem ev13 : ∃ S', evF X0 AP 40 13 [] S0 = some (.bool true, S') := by
  have h : (evF X0 AP 40 13 [] S0).map Prod.fst = some (.bool true) := by kernel_rfl
  rw [Option.map_eq_some_iff] at h
  obtain ⟨⟨v, S'⟩, h1, h2⟩ := h
  exact ⟨S', by rw [h1]; cases h2; rfl⟩
theorem yk : XOk Try.prog Y := addX_any yk8 (X0_ok _) (addX_N0 (P := Try.prog) mixed (X0_ok _) apOk (entry_of apOk (af := af13) rfl) rfl ⟨40, ev13⟩)
section
variable (k : Nat) (S : St) (a b : Int)
theorem y34 : evF Y AP (k + 1) 34 [.int .i64 a, .int .i64 b] S = some (.int .i64 (mn (up a + up b) M63), S) := rfl
theorem y33 : evF Y AP (k + 1) 33 [.int .i64 a, .int .i64 b] S = some (.int .i64 (mn (up a * up b) M63), S) := rfl
theorem y37 : evF Y AP (k + 1) 37 [.int .i64 a, .int .i64 b] S = some (.int .i64 (mn (up a + up b) M63), S) := rfl
theorem y38 : evF Y AP (k + 1) 38 [.int .i64 a, .int .i64 b] S = some (.int .i64 (mn (up a * up b) M63), S) := rfl
theorem y32 : evF Y AP (k + 1) 32 [.int .i64 a] S = some (.int .i64 (held a), S) := rfl
theorem y40 : evF Y AP (k + 1) 40 [.int .i64 a] S = some (.int .i64 (held a), S) := rfl
theorem y13 : evF Y AP (k + 1) 13 [] S = some (.bool true, S) := rfl
end
end Go.Proofs.YtkjmhhoioanolaaA
