/- Chapter 15: what each function of the numbers that go on, and each of the reference's, comes to. -/
import Derived.Test.YtanloaedpalblaaAf
import Derived.Test.YtanloaedpalblaaAeNum
import Derived.Test.YtanloaedpalblaaAeS2
set_option linter.unusedVariables false
set_option linter.unusedSimpArgs false
set_option maxRecDepth 10000
namespace Go.Proofs.YtanloaedpalblaaA
open Go.RowKit
attribute [local congr] bind_congr1 map_congr1 cond_congr1 withX_congr

def ext (M last n : Int) : Int :=
  if last < 0 then n else
    let d := (n - last % M + M) % M
    let e := if M / 2 < d ∨ 9223372036854775807 - d < last then d - M else d
    if last + e < 0 then n else last + e
theorem shl16 : IntKind.i64.wrap (1 * 2 ^ min 16 (IntKind.bits .i64)) = 65536 := by decide
theorem shl32 : IntKind.i64.wrap (1 * 2 ^ min 32 (IntKind.bits .i64)) = 4294967296 := by decide
theorem m16 : IntKind.i64.wrap (65536 - 1) = 65535 := by decide
theorem m32 : IntKind.i64.wrap (4294967296 - 1) = 4294967295 := by decide
theorem a16 (x : Int) : Go.bits .and .i64 x 65535 = x % 65536 := and_i64 16 (by decide) x
theorem a32 (x : Int) : Go.bits .and .i64 x 4294967295 = x % 4294967296 := and_i64 32 (by decide) x
theorem d16 : IntKind.i64.wrap (Int.tdiv 65536 2) = 32768 := by decide
theorem d32 : IntKind.i64.wrap (Int.tdiv 4294967296 2) = 2147483648 := by decide
theorem ev22a {a n : Int} (ha : I64 a) (h0 : 0 ≤ n) (h1 : n < 65536) : evF X0 AP 3 22 [.int .i64 a, .int .i64 n, .int .i64 16] S0 = some (.int .i64 (ext 65536 a n), S0) := by
  rw [evF_body (af := af22) rfl rfl rfl]
  have w1 : IntKind.i64.wrap (n - a % 65536) = n - a % 65536 := w64_id (by omega) (by omega)
  have w2 : IntKind.i64.wrap (n - a % 65536 + 65536) = n - a % 65536 + 65536 := w64_id (by omega) (by omega)
  have hd0 : 0 ≤ (n - a % 65536 + 65536) % 65536 := by omega
  have hd1 : (n - a % 65536 + 65536) % 65536 < 65536 := by omega
  by_cases ha0 : a < 0
  · simp -implicitDefEqProofs (maxSteps := 10000000) only [af22, evC, evOps, evOper, wanted, evAny, AOp.calls, evOp, XO.ev, XO.lit, setArgs, putD, Tr.get_set, Option.bind_some, Option.map_some, cond_true, cond_false, evArgs, maxI, maxFrom, minI, minFrom, aConv, aBin, aBinE, aEq, eqScal, aUn, aInt, evRes, fin, oneOf, if_true, if_false, callee, evF_eq, withX_some, withX_none, addX, X0, sN0, sN1, sN2, sN3, sN4, reduceCtorEq, Nat.reduceEqDiff, and_self, decide_true, decide_false, beq_true, beq_false, Bool.not_true, Bool.not_false, List.getElem?_cons_zero, List.getElem?_cons_succ, beq_self_eq_true, gt_iff_lt, ble_dec, beq_dec, List.head?_cons, AV.undef, eq_self, ne_eq, not_true_eq_false, not_false_eq_true, Int.reduceLT, Int.reduceLE, Int.reduceToNat, Int.reduceEq, Int.reduceNeg, Nat.reduceAdd, Nat.reduceLT, Nat.reduceLeDiff, Nat.reduceMul, Nat.reduceSub, shl16, ha0]
    unfold ext
    rw [if_pos ha0]
  · obtain ⟨d, hd⟩ : ∃ d, (n - a % 65536 + 65536) % 65536 = d := ⟨_, rfl⟩
    have w3 : IntKind.i64.wrap (9223372036854775807 - d) = 9223372036854775807 - d := w64_id (by omega) (by omega)
    have w4 : IntKind.i64.wrap (d - 65536) = d - 65536 := w64_id (by omega) (by omega)
    have := ha.2
    unfold ext
    rw [if_neg ha0]
    simp only [hd]
    have cc : ((65536 : Int) / 2 < d ∨ 9223372036854775807 - d < a) ↔ (32768 < d ∨ 9223372036854775807 - d < a) := by omega
    simp only [cc]
    by_cases c1 : 32768 < d
    · have w5 : IntKind.i64.wrap (a + (d - 65536)) = a + (d - 65536) := w64_id (by omega) (by omega)
      rw [if_pos (show 32768 < d ∨ 9223372036854775807 - d < a from .inl c1)]
      by_cases c3 : a + (d - 65536) < 0
      · simp -implicitDefEqProofs (maxSteps := 10000000) only [af22, evC, evOps, evOper, wanted, evAny, AOp.calls, evOp, XO.ev, XO.lit, setArgs, putD, Tr.get_set, Option.bind_some, Option.map_some, cond_true, cond_false, evArgs, maxI, maxFrom, minI, minFrom, aConv, aBin, aBinE, aEq, eqScal, aUn, aInt, evRes, fin, oneOf, if_true, if_false, callee, evF_eq, withX_some, withX_none, addX, X0, sN0, sN1, sN2, sN3, sN4, reduceCtorEq, Nat.reduceEqDiff, and_self, decide_true, decide_false, beq_true, beq_false, Bool.not_true, Bool.not_false, List.getElem?_cons_zero, List.getElem?_cons_succ, beq_self_eq_true, gt_iff_lt, ble_dec, beq_dec, List.head?_cons, AV.undef, eq_self, ne_eq, not_true_eq_false, not_false_eq_true, Int.reduceLT, Int.reduceLE, Int.reduceToNat, Int.reduceEq, Int.reduceNeg, Nat.reduceAdd, Nat.reduceLT, Nat.reduceLeDiff, Nat.reduceMul, Nat.reduceSub, shl16, m16, a16, d16, ha0, w1, w2, hd, w3, w4, w5, c1, c3]
      · simp -implicitDefEqProofs (maxSteps := 10000000) only [af22, evC, evOps, evOper, wanted, evAny, AOp.calls, evOp, XO.ev, XO.lit, setArgs, putD, Tr.get_set, Option.bind_some, Option.map_some, cond_true, cond_false, evArgs, maxI, maxFrom, minI, minFrom, aConv, aBin, aBinE, aEq, eqScal, aUn, aInt, evRes, fin, oneOf, if_true, if_false, callee, evF_eq, withX_some, withX_none, addX, X0, sN0, sN1, sN2, sN3, sN4, reduceCtorEq, Nat.reduceEqDiff, and_self, decide_true, decide_false, beq_true, beq_false, Bool.not_true, Bool.not_false, List.getElem?_cons_zero, List.getElem?_cons_succ, beq_self_eq_true, gt_iff_lt, ble_dec, beq_dec, List.head?_cons, AV.undef, eq_self, ne_eq, not_true_eq_false, not_false_eq_true, Int.reduceLT, Int.reduceLE, Int.reduceToNat, Int.reduceEq, Int.reduceNeg, Nat.reduceAdd, Nat.reduceLT, Nat.reduceLeDiff, Nat.reduceMul, Nat.reduceSub, shl16, m16, a16, d16, ha0, w1, w2, hd, w3, w4, w5, c1, c3]
    · by_cases c2 : 9223372036854775807 - d < a
      · have w5 : IntKind.i64.wrap (a + (d - 65536)) = a + (d - 65536) := w64_id (by omega) (by omega)
        rw [if_pos (show 32768 < d ∨ 9223372036854775807 - d < a from .inr c2)]
        by_cases c3 : a + (d - 65536) < 0
        · simp -implicitDefEqProofs (maxSteps := 10000000) only [af22, evC, evOps, evOper, wanted, evAny, AOp.calls, evOp, XO.ev, XO.lit, setArgs, putD, Tr.get_set, Option.bind_some, Option.map_some, cond_true, cond_false, evArgs, maxI, maxFrom, minI, minFrom, aConv, aBin, aBinE, aEq, eqScal, aUn, aInt, evRes, fin, oneOf, if_true, if_false, callee, evF_eq, withX_some, withX_none, addX, X0, sN0, sN1, sN2, sN3, sN4, reduceCtorEq, Nat.reduceEqDiff, and_self, decide_true, decide_false, beq_true, beq_false, Bool.not_true, Bool.not_false, List.getElem?_cons_zero, List.getElem?_cons_succ, beq_self_eq_true, gt_iff_lt, ble_dec, beq_dec, List.head?_cons, AV.undef, eq_self, ne_eq, not_true_eq_false, not_false_eq_true, Int.reduceLT, Int.reduceLE, Int.reduceToNat, Int.reduceEq, Int.reduceNeg, Nat.reduceAdd, Nat.reduceLT, Nat.reduceLeDiff, Nat.reduceMul, Nat.reduceSub, shl16, m16, a16, d16, ha0, w1, w2, hd, w3, w4, w5, c1, c2, c3]
        · simp -implicitDefEqProofs (maxSteps := 10000000) only [af22, evC, evOps, evOper, wanted, evAny, AOp.calls, evOp, XO.ev, XO.lit, setArgs, putD, Tr.get_set, Option.bind_some, Option.map_some, cond_true, cond_false, evArgs, maxI, maxFrom, minI, minFrom, aConv, aBin, aBinE, aEq, eqScal, aUn, aInt, evRes, fin, oneOf, if_true, if_false, callee, evF_eq, withX_some, withX_none, addX, X0, sN0, sN1, sN2, sN3, sN4, reduceCtorEq, Nat.reduceEqDiff, and_self, decide_true, decide_false, beq_true, beq_false, Bool.not_true, Bool.not_false, List.getElem?_cons_zero, List.getElem?_cons_succ, beq_self_eq_true, gt_iff_lt, ble_dec, beq_dec, List.head?_cons, AV.undef, eq_self, ne_eq, not_true_eq_false, not_false_eq_true, Int.reduceLT, Int.reduceLE, Int.reduceToNat, Int.reduceEq, Int.reduceNeg, Nat.reduceAdd, Nat.reduceLT, Nat.reduceLeDiff, Nat.reduceMul, Nat.reduceSub, shl16, m16, a16, d16, ha0, w1, w2, hd, w3, w4, w5, c1, c2, c3]
      · have w5 : IntKind.i64.wrap (a + d) = a + d := w64_id (by omega) (by omega)
        rw [if_neg (show ¬ (32768 < d ∨ 9223372036854775807 - d < a) by omega)]
        have c3 : ¬ a + d < 0 := by omega
        simp -implicitDefEqProofs (maxSteps := 10000000) only [af22, evC, evOps, evOper, wanted, evAny, AOp.calls, evOp, XO.ev, XO.lit, setArgs, putD, Tr.get_set, Option.bind_some, Option.map_some, cond_true, cond_false, evArgs, maxI, maxFrom, minI, minFrom, aConv, aBin, aBinE, aEq, eqScal, aUn, aInt, evRes, fin, oneOf, if_true, if_false, callee, evF_eq, withX_some, withX_none, addX, X0, sN0, sN1, sN2, sN3, sN4, reduceCtorEq, Nat.reduceEqDiff, and_self, decide_true, decide_false, beq_true, beq_false, Bool.not_true, Bool.not_false, List.getElem?_cons_zero, List.getElem?_cons_succ, beq_self_eq_true, gt_iff_lt, ble_dec, beq_dec, List.head?_cons, AV.undef, eq_self, ne_eq, not_true_eq_false, not_false_eq_true, Int.reduceLT, Int.reduceLE, Int.reduceToNat, Int.reduceEq, Int.reduceNeg, Nat.reduceAdd, Nat.reduceLT, Nat.reduceLeDiff, Nat.reduceMul, Nat.reduceSub, shl16, m16, a16, d16, ha0, w1, w2, hd, w3, w4, w5, c1, c2, c3]
theorem ev22b {a n : Int} (ha : I64 a) (h0 : 0 ≤ n) (h1 : n < 4294967296) : evF X0 AP 3 22 [.int .i64 a, .int .i64 n, .int .i64 32] S0 = some (.int .i64 (ext 4294967296 a n), S0) := by
  rw [evF_body (af := af22) rfl rfl rfl]
  have w1 : IntKind.i64.wrap (n - a % 4294967296) = n - a % 4294967296 := w64_id (by omega) (by omega)
  have w2 : IntKind.i64.wrap (n - a % 4294967296 + 4294967296) = n - a % 4294967296 + 4294967296 := w64_id (by omega) (by omega)
  have hd0 : 0 ≤ (n - a % 4294967296 + 4294967296) % 4294967296 := by omega
  have hd1 : (n - a % 4294967296 + 4294967296) % 4294967296 < 4294967296 := by omega
  by_cases ha0 : a < 0
  · simp -implicitDefEqProofs (maxSteps := 10000000) only [af22, evC, evOps, evOper, wanted, evAny, AOp.calls, evOp, XO.ev, XO.lit, setArgs, putD, Tr.get_set, Option.bind_some, Option.map_some, cond_true, cond_false, evArgs, maxI, maxFrom, minI, minFrom, aConv, aBin, aBinE, aEq, eqScal, aUn, aInt, evRes, fin, oneOf, if_true, if_false, callee, evF_eq, withX_some, withX_none, addX, X0, sN0, sN1, sN2, sN3, sN4, reduceCtorEq, Nat.reduceEqDiff, and_self, decide_true, decide_false, beq_true, beq_false, Bool.not_true, Bool.not_false, List.getElem?_cons_zero, List.getElem?_cons_succ, beq_self_eq_true, gt_iff_lt, ble_dec, beq_dec, List.head?_cons, AV.undef, eq_self, ne_eq, not_true_eq_false, not_false_eq_true, Int.reduceLT, Int.reduceLE, Int.reduceToNat, Int.reduceEq, Int.reduceNeg, Nat.reduceAdd, Nat.reduceLT, Nat.reduceLeDiff, Nat.reduceMul, Nat.reduceSub, shl32, ha0]
    unfold ext
    rw [if_pos ha0]
  · obtain ⟨d, hd⟩ : ∃ d, (n - a % 4294967296 + 4294967296) % 4294967296 = d := ⟨_, rfl⟩
    have w3 : IntKind.i64.wrap (9223372036854775807 - d) = 9223372036854775807 - d := w64_id (by omega) (by omega)
    have w4 : IntKind.i64.wrap (d - 4294967296) = d - 4294967296 := w64_id (by omega) (by omega)
    have := ha.2
    unfold ext
    rw [if_neg ha0]
    simp only [hd]
    have cc : ((4294967296 : Int) / 2 < d ∨ 9223372036854775807 - d < a) ↔ (2147483648 < d ∨ 9223372036854775807 - d < a) := by omega
    simp only [cc]
    by_cases c1 : 2147483648 < d
    · have w5 : IntKind.i64.wrap (a + (d - 4294967296)) = a + (d - 4294967296) := w64_id (by omega) (by omega)
      rw [if_pos (show 2147483648 < d ∨ 9223372036854775807 - d < a from .inl c1)]
      by_cases c3 : a + (d - 4294967296) < 0
      · simp -implicitDefEqProofs (maxSteps := 10000000) only [af22, evC, evOps, evOper, wanted, evAny, AOp.calls, evOp, XO.ev, XO.lit, setArgs, putD, Tr.get_set, Option.bind_some, Option.map_some, cond_true, cond_false, evArgs, maxI, maxFrom, minI, minFrom, aConv, aBin, aBinE, aEq, eqScal, aUn, aInt, evRes, fin, oneOf, if_true, if_false, callee, evF_eq, withX_some, withX_none, addX, X0, sN0, sN1, sN2, sN3, sN4, reduceCtorEq, Nat.reduceEqDiff, and_self, decide_true, decide_false, beq_true, beq_false, Bool.not_true, Bool.not_false, List.getElem?_cons_zero, List.getElem?_cons_succ, beq_self_eq_true, gt_iff_lt, ble_dec, beq_dec, List.head?_cons, AV.undef, eq_self, ne_eq, not_true_eq_false, not_false_eq_true, Int.reduceLT, Int.reduceLE, Int.reduceToNat, Int.reduceEq, Int.reduceNeg, Nat.reduceAdd, Nat.reduceLT, Nat.reduceLeDiff, Nat.reduceMul, Nat.reduceSub, shl32, m32, a32, d32, ha0, w1, w2, hd, w3, w4, w5, c1, c3]
      · simp -implicitDefEqProofs (maxSteps := 10000000) only [af22, evC, evOps, evOper, wanted, evAny, AOp.calls, evOp, XO.ev, XO.lit, setArgs, putD, Tr.get_set, Option.bind_some, Option.map_some, cond_true, cond_false, evArgs, maxI, maxFrom, minI, minFrom, aConv, aBin, aBinE, aEq, eqScal, aUn, aInt, evRes, fin, oneOf, if_true, if_false, callee, evF_eq, withX_some, withX_none, addX, X0, sN0, sN1, sN2, sN3, sN4, reduceCtorEq, Nat.reduceEqDiff, and_self, decide_true, decide_false, beq_true, beq_false, Bool.not_true, Bool.not_false, List.getElem?_cons_zero, List.getElem?_cons_succ, beq_self_eq_true, gt_iff_lt, ble_dec, beq_dec, List.head?_cons, AV.undef, eq_self, ne_eq, not_true_eq_false, not_false_eq_true, Int.reduceLT, Int.reduceLE, Int.reduceToNat, Int.reduceEq, Int.reduceNeg, Nat.reduceAdd, Nat.reduceLT, Nat.reduceLeDiff, Nat.reduceMul, Nat.reduceSub, shl32, m32, a32, d32, ha0, w1, w2, hd, w3, w4, w5, c1, c3]
    · by_cases c2 : 9223372036854775807 - d < a
      · have w5 : IntKind.i64.wrap (a + (d - 4294967296)) = a + (d - 4294967296) := w64_id (by omega) (by omega)
        rw [if_pos (show 2147483648 < d ∨ 9223372036854775807 - d < a from .inr c2)]
        by_cases c3 : a + (d - 4294967296) < 0
        · simp -implicitDefEqProofs (maxSteps := 10000000) only [af22, evC, evOps, evOper, wanted, evAny, AOp.calls, evOp, XO.ev, XO.lit, setArgs, putD, Tr.get_set, Option.bind_some, Option.map_some, cond_true, cond_false, evArgs, maxI, maxFrom, minI, minFrom, aConv, aBin, aBinE, aEq, eqScal, aUn, aInt, evRes, fin, oneOf, if_true, if_false, callee, evF_eq, withX_some, withX_none, addX, X0, sN0, sN1, sN2, sN3, sN4, reduceCtorEq, Nat.reduceEqDiff, and_self, decide_true, decide_false, beq_true, beq_false, Bool.not_true, Bool.not_false, List.getElem?_cons_zero, List.getElem?_cons_succ, beq_self_eq_true, gt_iff_lt, ble_dec, beq_dec, List.head?_cons, AV.undef, eq_self, ne_eq, not_true_eq_false, not_false_eq_true, Int.reduceLT, Int.reduceLE, Int.reduceToNat, Int.reduceEq, Int.reduceNeg, Nat.reduceAdd, Nat.reduceLT, Nat.reduceLeDiff, Nat.reduceMul, Nat.reduceSub, shl32, m32, a32, d32, ha0, w1, w2, hd, w3, w4, w5, c1, c2, c3]
        · simp -implicitDefEqProofs (maxSteps := 10000000) only [af22, evC, evOps, evOper, wanted, evAny, AOp.calls, evOp, XO.ev, XO.lit, setArgs, putD, Tr.get_set, Option.bind_some, Option.map_some, cond_true, cond_false, evArgs, maxI, maxFrom, minI, minFrom, aConv, aBin, aBinE, aEq, eqScal, aUn, aInt, evRes, fin, oneOf, if_true, if_false, callee, evF_eq, withX_some, withX_none, addX, X0, sN0, sN1, sN2, sN3, sN4, reduceCtorEq, Nat.reduceEqDiff, and_self, decide_true, decide_false, beq_true, beq_false, Bool.not_true, Bool.not_false, List.getElem?_cons_zero, List.getElem?_cons_succ, beq_self_eq_true, gt_iff_lt, ble_dec, beq_dec, List.head?_cons, AV.undef, eq_self, ne_eq, not_true_eq_false, not_false_eq_true, Int.reduceLT, Int.reduceLE, Int.reduceToNat, Int.reduceEq, Int.reduceNeg, Nat.reduceAdd, Nat.reduceLT, Nat.reduceLeDiff, Nat.reduceMul, Nat.reduceSub, shl32, m32, a32, d32, ha0, w1, w2, hd, w3, w4, w5, c1, c2, c3]
      · have w5 : IntKind.i64.wrap (a + d) = a + d := w64_id (by omega) (by omega)
        rw [if_neg (show ¬ (2147483648 < d ∨ 9223372036854775807 - d < a) by omega)]
        have c3 : ¬ a + d < 0 := by omega
        simp -implicitDefEqProofs (maxSteps := 10000000) only [af22, evC, evOps, evOper, wanted, evAny, AOp.calls, evOp, XO.ev, XO.lit, setArgs, putD, Tr.get_set, Option.bind_some, Option.map_some, cond_true, cond_false, evArgs, maxI, maxFrom, minI, minFrom, aConv, aBin, aBinE, aEq, eqScal, aUn, aInt, evRes, fin, oneOf, if_true, if_false, callee, evF_eq, withX_some, withX_none, addX, X0, sN0, sN1, sN2, sN3, sN4, reduceCtorEq, Nat.reduceEqDiff, and_self, decide_true, decide_false, beq_true, beq_false, Bool.not_true, Bool.not_false, List.getElem?_cons_zero, List.getElem?_cons_succ, beq_self_eq_true, gt_iff_lt, ble_dec, beq_dec, List.head?_cons, AV.undef, eq_self, ne_eq, not_true_eq_false, not_false_eq_true, Int.reduceLT, Int.reduceLE, Int.reduceToNat, Int.reduceEq, Int.reduceNeg, Nat.reduceAdd, Nat.reduceLT, Nat.reduceLeDiff, Nat.reduceMul, Nat.reduceSub, shl32, m32, a32, d32, ha0, w1, w2, hd, w3, w4, w5, c1, c2, c3]
theorem ev11 {a n : Int} (ha : I64 a) (h0 : 0 ≤ n) (h1 : n < 65536) : evF X0 AP 4 11 [.int .i64 a, .int .u16 n] S0 = some (.int .i64 (ext 65536 a n), S0) := by
  rw [evF_body (af := af11) rfl rfl rfl]
  have w : IntKind.i64.wrap n = n := w64_id (by omega) (by omega)
  simp -implicitDefEqProofs (maxSteps := 10000000) only [af11, evC, evOps, evOper, wanted, evAny, AOp.calls, evOp, XO.ev, XO.lit, setArgs, putD, Tr.get_set, Option.bind_some, Option.map_some, cond_true, cond_false, evArgs, maxI, maxFrom, minI, minFrom, aConv, aBin, aBinE, aEq, eqScal, aUn, aInt, evRes, fin, oneOf, if_true, if_false, callee, withX_some, withX_none, addX, X0, sN0, sN1, sN2, sN3, sN4, reduceCtorEq, Nat.reduceEqDiff, and_self, decide_true, decide_false, beq_true, beq_false, Bool.not_true, Bool.not_false, List.getElem?_cons_zero, List.getElem?_cons_succ, beq_self_eq_true, gt_iff_lt, ble_dec, beq_dec, List.head?_cons, AV.undef, eq_self, ne_eq, not_true_eq_false, not_false_eq_true, Int.reduceLT, Int.reduceLE, Int.reduceToNat, Int.reduceEq, Int.reduceNeg, Nat.reduceAdd, Nat.reduceLT, Nat.reduceLeDiff, Nat.reduceMul, Nat.reduceSub, w, ev22a ha h0 h1]
theorem ev12 {a n : Int} (ha : I64 a) (h0 : 0 ≤ n) (h1 : n < 4294967296) : evF X0 AP 4 12 [.int .i64 a, .int .u32 n] S0 = some (.int .i64 (ext 4294967296 a n), S0) := by
  rw [evF_body (af := af12) rfl rfl rfl]
  have w : IntKind.i64.wrap n = n := w64_id (by omega) (by omega)
  simp -implicitDefEqProofs (maxSteps := 10000000) only [af12, evC, evOps, evOper, wanted, evAny, AOp.calls, evOp, XO.ev, XO.lit, setArgs, putD, Tr.get_set, Option.bind_some, Option.map_some, cond_true, cond_false, evArgs, maxI, maxFrom, minI, minFrom, aConv, aBin, aBinE, aEq, eqScal, aUn, aInt, evRes, fin, oneOf, if_true, if_false, callee, withX_some, withX_none, addX, X0, sN0, sN1, sN2, sN3, sN4, reduceCtorEq, Nat.reduceEqDiff, and_self, decide_true, decide_false, beq_true, beq_false, Bool.not_true, Bool.not_false, List.getElem?_cons_zero, List.getElem?_cons_succ, beq_self_eq_true, gt_iff_lt, ble_dec, beq_dec, List.head?_cons, AV.undef, eq_self, ne_eq, not_true_eq_false, not_false_eq_true, Int.reduceLT, Int.reduceLE, Int.reduceToNat, Int.reduceEq, Int.reduceNeg, Nat.reduceAdd, Nat.reduceLT, Nat.reduceLeDiff, Nat.reduceMul, Nat.reduceSub, w, ev22b ha h0 h1]
def X1 := addX X0 11 (sN2 .i64 .u16 fun a n => .int .i64 (ext 65536 a n))
def X2 := addX X1 12 (sN2 .i64 .u32 fun a n => .int .i64 (ext 4294967296 a n))
theorem addX_any {X Y : Nat → List AV → Option AV} (hX : XOk Try.prog X) (hY : XOk Try.prog Y) {g : Nat} {s : List AV → Option AV} (h : XOk Try.prog (addX Y g s)) : XOk Try.prog (addX X g s) := by
  intro f args v hv
  unfold addX at hv
  by_cases hf : f = g
  · rw [if_pos hf] at hv
    exact h f args v (by unfold addX; rw [if_pos hf]; exact hv)
  · rw [if_neg hf] at hv
    exact hX f args v hv
theorem ok1 : XOk Try.prog X1 := addX_N2 mixed (X0_ok _) apOk (entry_of apOk (af := af11) rfl) (fun _ _ => rfl) fun a n wa wn => ⟨4, S0, ev11 (wf_i64 wa) (wf_u16 wn).1 (by have := (wf_u16 wn).2; omega)⟩
theorem ok2 : XOk Try.prog X2 := addX_any ok1 (X0_ok _) (addX_N2 mixed (X0_ok _) apOk (entry_of apOk (af := af12) rfl) (fun _ _ => rfl) fun a n wa wn => ⟨4, S0, ev12 (wf_i64 wa) (wf_u32 wn).1 (by have := (wf_u32 wn).2; omega)⟩)
theorem ev10 : ∃ S', evF X0 AP 40 10 [] S0 = some (.bool true, S') := by
  have h : (evF X0 AP 40 10 [] S0).map Prod.fst = some (.bool true) := by kernel_rfl
  rw [Option.map_eq_some_iff] at h
  obtain ⟨⟨v, S'⟩, h1, h2⟩ := h
  exact ⟨S', by rw [h1]; cases h2; rfl⟩
def X3 := addX X2 10 (sN0 (.bool true))
theorem ok3 : XOk Try.prog X3 := addX_any ok2 (X0_ok _) (addX_N0 mixed (X0_ok _) apOk (entry_of apOk (af := af10) rfl) rfl ⟨40, ev10⟩)
end Go.Proofs.YtanloaedpalblaaA
