/- Chapter 9: the program's numbers are the reference's, and what each law's function tells. -/
import Derived.Test.YtccjifccejcepaaClkA
set_option linter.unusedVariables false
set_option linter.unusedSimpArgs false
set_option maxRecDepth 10000
namespace Go.Proofs.YtccjifccejcepaaA
open Go.RowKit
attribute [local congr] bind_congr1 map_congr1 cond_congr1 withX_congr

def nSum (a b : Int) : AV := .int .i64 (mn (up a + up b) M63)
def nMul (a b : Int) : AV := .int .i64 (mn (up a * up b) M63)
def nOver (a b : Int) : AV := .int .i64 (upq (up a) (up b))
def nLess (a b c d : Int) : AV := .bool (decide (up a * up b < up c * up d))
def X4 := addX X3 10 (sN2 .i64 .i64 nSum)
def X5 := addX X4 11 (sN2 .i64 .i64 nMul)
def X6 := addX X5 9 (sN2 .i64 .i64 nOver)
def X7 := addX X6 12 (sN4 .i64 .i64 .i64 .i64 nLess)
def X8 := addX X7 13 (sN2 .i64 .i64 nSum)
def X9 := addX X8 14 (sN2 .i64 .i64 nMul)
def X10 := addX X9 15 (sN2 .i64 .i64 nOver)
def X11 := addX X10 16 (sN4 .i64 .i64 .i64 .i64 nLess)
/-- Summaries of functions, each by its own evaluation under the first three. -/
theorem addX_any {X Y : Nat → List AV → Option AV} (hX : XOk Try.prog X) (hY : XOk Try.prog Y) {g : Nat} {s : List AV → Option AV} (h : XOk Try.prog (addX Y g s)) : XOk Try.prog (addX X g s) := by
  intro f args v hv
  unfold addX at hv
  by_cases hf : f = g
  · rw [if_pos hf] at hv
    exact h f args v (by unfold addX; rw [if_pos hf]; exact hv)
  · rw [if_neg hf] at hv
    exact hX f args v hv
theorem ok4 : XOk Try.prog X4 := addX_N2 mixed ok3 apOk (entry_of apOk (af := af10) rfl) (fun _ _ => rfl) fun a b wa wb => ⟨3, S0, ev10 (wf_i64 wa) (wf_i64 wb)⟩
theorem ok5 : XOk Try.prog X5 := addX_any ok4 ok3 (addX_N2 mixed ok3 apOk (entry_of apOk (af := af11) rfl) (fun _ _ => rfl) fun a b wa wb => ⟨3, S0, ev11 (wf_i64 wa) (wf_i64 wb)⟩)
theorem ok6 : XOk Try.prog X6 := addX_any ok5 ok3 (addX_N2 mixed ok3 apOk (entry_of apOk (af := af9) rfl) (fun _ _ => rfl) fun a b wa wb => ⟨3, S0, ev9 (wf_i64 wa) (wf_i64 wb)⟩)
theorem ok7 : XOk Try.prog X7 := addX_any ok6 ok3 (addX_N4 mixed ok3 apOk (entry_of apOk (af := af12) rfl) (fun _ _ _ _ => rfl) fun a b c d wa wb wc wd => ⟨3, S0, ev12 (wf_i64 wa) (wf_i64 wb) (wf_i64 wc) (wf_i64 wd)⟩)
theorem ok8 : XOk Try.prog X8 := addX_any ok7 ok3 (addX_N2 mixed ok3 apOk (entry_of apOk (af := af13) rfl) (fun _ _ => rfl) fun a b wa wb => ⟨3, S0, ev13 (wf_i64 wa) (wf_i64 wb)⟩)
theorem ok9 : XOk Try.prog X9 := addX_any ok8 ok3 (addX_N2 mixed ok3 apOk (entry_of apOk (af := af14) rfl) (fun _ _ => rfl) fun a b wa wb => ⟨3, S0, ev14 (wf_i64 wa) (wf_i64 wb)⟩)
theorem ok10 : XOk Try.prog X10 := addX_any ok9 ok3 (addX_N2 mixed ok3 apOk (entry_of apOk (af := af15) rfl) (fun _ _ => rfl) fun a b wa wb => ⟨3, S0, ev15 (wf_i64 wa) (wf_i64 wb)⟩)
theorem ok11 : XOk Try.prog X11 := addX_any ok10 ok3 (addX_N4 mixed ok3 apOk (entry_of apOk (af := af16) rfl) (fun _ _ _ _ => rfl) fun a b c d wa wb wc wd => ⟨3, S0, ev16 (wf_i64 wa) (wf_i64 wb) (wf_i64 wc) (wf_i64 wd)⟩)
theorem ev7 (a b c d : Int) : evF X11 AP 3 7 [.int .i64 a, .int .i64 b, .int .i64 c, .int .i64 d] S0 = some (.bool true, S0) := by
  rw [evF_body (af := af7) rfl rfl rfl]
  simp -implicitDefEqProofs (maxSteps := 10000000) only [af7, evC, evOps, evOper, wanted, evAny, AOp.calls, evOp, XO.ev, XO.lit, setArgs, putD, Tr.get_set, Option.bind_some, Option.map_some, cond_true, cond_false, evArgs, maxI, maxFrom, minI, minFrom, aConv, aBin, aBinE, aEq, eqScal, aUn, aInt, evRes, fin, oneOf, if_true, if_false, callee, evF_eq, withX_some, withX_none, addX, X0, sN0, sN1, sN2, sN3, sN4, reduceCtorEq, Nat.reduceEqDiff, and_self, decide_true, decide_false, beq_true, beq_false, Bool.not_true, Bool.not_false, List.getElem?_cons_zero, List.getElem?_cons_succ, beq_self_eq_true, gt_iff_lt, ble_dec, beq_dec, List.head?_cons, AV.undef, eq_self, ne_eq, not_true_eq_false, not_false_eq_true, Int.reduceLT, Int.reduceLE, Int.reduceToNat, Int.reduceEq, Int.reduceNeg, Nat.reduceAdd, Nat.reduceLT, Nat.reduceLeDiff, Nat.reduceMul, Nat.reduceSub, X11, X10, X9, X8, X7, X6, X5, X4, X3, X2, X1, nSum, nMul, nOver, nLess]
def X12 := addX X11 7 (sN4 .i64 .i64 .i64 .i64 fun _ _ _ _ => .bool true)
theorem ok12 : XOk Try.prog X12 := addX_N4 mixed ok11 apOk (entry_of apOk (af := af7) rfl) (fun _ _ _ _ => rfl) fun a b c d _ _ _ _ => ⟨3, S0, ev7 a b c d⟩
theorem ev8 : ∃ S', evF X0 AP 40 8 [] S0 = some (.bool true, S') := by
  have h : (evF X0 AP 40 8 [] S0).map Prod.fst = some (.bool true) := by kernel_rfl
  rw [Option.map_eq_some_iff] at h
  obtain ⟨⟨v, S'⟩, h1, h2⟩ := h
  exact ⟨S', by rw [h1]; cases h2; rfl⟩
def X13 := addX X12 8 (sN0 (.bool true))
theorem ok13 : XOk Try.prog X13 := addX_any ok12 (X0_ok _) (addX_N0 mixed (X0_ok _) apOk (entry_of apOk (af := af8) rfl) rfl ⟨40, ev8⟩)
theorem ev4 (a b c d : Int) : evF X13 AP 3 4 [.int .i64 a, .int .i64 b, .int .i64 c, .int .i64 d] S0 = some (.bool true, S0) := by
  rw [evF_body (af := af4) rfl rfl rfl]
  simp -implicitDefEqProofs (maxSteps := 10000000) only [af4, evC, evOps, evOper, wanted, evAny, AOp.calls, evOp, XO.ev, XO.lit, setArgs, putD, Tr.get_set, Option.bind_some, Option.map_some, cond_true, cond_false, evArgs, maxI, maxFrom, minI, minFrom, aConv, aBin, aBinE, aEq, eqScal, aUn, aInt, evRes, fin, oneOf, if_true, if_false, callee, evF_eq, withX_some, withX_none, addX, X0, sN0, sN1, sN2, sN3, sN4, reduceCtorEq, Nat.reduceEqDiff, and_self, decide_true, decide_false, beq_true, beq_false, Bool.not_true, Bool.not_false, List.getElem?_cons_zero, List.getElem?_cons_succ, beq_self_eq_true, gt_iff_lt, ble_dec, beq_dec, List.head?_cons, AV.undef, eq_self, ne_eq, not_true_eq_false, not_false_eq_true, Int.reduceLT, Int.reduceLE, Int.reduceToNat, Int.reduceEq, Int.reduceNeg, Nat.reduceAdd, Nat.reduceLT, Nat.reduceLeDiff, Nat.reduceMul, Nat.reduceSub, X13, X12]
end Go.Proofs.YtccjifccejcepaaA
