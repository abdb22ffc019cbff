/- Chapter 15: what the reference's functions come to; both go on alike. -/
import Derived.Test.YtanloaedpalblaaSeqB
import Derived.Test.YtanloaedpalblaaAeS5
set_option linter.unusedVariables false
set_option linter.unusedSimpArgs false
set_option maxRecDepth 10000
namespace Go.Proofs.YtanloaedpalblaaA
open Go.RowKit
attribute [local congr] bind_congr1 map_congr1 cond_congr1 withX_congr after_congr br_congr

theorem ev23a {a n : Int} (ha : I64 a) (h0 : 0 ≤ n) (h1 : n < 65536) : evF X0 AP 3 23 [.int .i64 a, .int .i64 n, .int .i64 65536] S0 = some (.int .i64 (ext 65536 a n), S0) := by
  rw [evF_body (af := af23) rfl rfl rfl]
  have := ha.2
  have hq : IntKind.i64.wrap (Int.tdiv 65536 2) = 32768 := by decide
  have hmx : IntKind.i64.wrap (9223372036854775807 - 65536) = 9223372036854710271 := by decide
  have hne : ¬ ((65536 : Int) = 0) := by decide
  by_cases c0 : a < 0
  · simp -implicitDefEqProofs -dsimp (maxSteps := 10000000) only [af23, evC, evOps, evOper, wanted, evAny, AOp.calls, evOp, XO.ev, XO.lit, setArgs, putD, Tr.get_set, Option.bind_some, Option.map_some, cond_true, cond_false, evArgs, maxI, maxFrom, minI, minFrom, aConv, aBin, aBinE, aEq, eqScal, aUn, aInt, evRes, fin, oneOf, if_true, if_false, callee, evF_eq, withX_some, withX_none, addX, X0, sN0, sN1, sN2, sN3, sN4, reduceCtorEq, Nat.reduceEqDiff, and_self, decide_true, decide_false, beq_true, beq_false, Bool.not_true, Bool.not_false, List.getElem?_cons_zero, List.getElem?_cons_succ, beq_self_eq_true, gt_iff_lt, ble_dec, beq_dec, List.head?_cons, AV.undef, eq_self, ne_eq, not_true_eq_false, not_false_eq_true, Int.reduceLT, Int.reduceLE, Int.reduceToNat, Int.reduceEq, Int.reduceNeg, Nat.reduceAdd, Nat.reduceLT, Nat.reduceLeDiff, Nat.reduceMul, Nat.reduceSub, c0]
    unfold ext
    rw [if_pos c0]
  · have ht : Int.tmod a 65536 = a % 65536 := Int.tmod_eq_emod_of_nonneg (by omega)
    obtain ⟨r, hr⟩ : ∃ r, a % 65536 = r := ⟨_, rfl⟩
    have hr0 : 0 ≤ r := by omega
    have hr1 : r < 65536 := by omega
    have hra : r ≤ a := by omega
    have hdv : ∃ q, a = 65536 * q + r := ⟨a / 65536, by omega⟩
    obtain ⟨q, hdv⟩ := hdv
    have w1 : IntKind.i64.wrap (a - r) = a - r := w64_id (by omega) (by omega)
    have w2 : IntKind.i64.wrap (a - r + n) = a - r + n := w64_id (by omega) (by omega)
    have w3 : IntKind.i64.wrap (a - (a - r + n)) = a - (a - r + n) := w64_id (by omega) (by omega)
    by_cases c1 : 32768 ≤ a - (a - r + n)
    · by_cases c2 : 9223372036854710271 < a - r + n
      · simp -implicitDefEqProofs -dsimp (maxSteps := 10000000) only [af23, evC, evOps, evOper, wanted, evAny, AOp.calls, evOp, XO.ev, XO.lit, setArgs, putD, Tr.get_set, Option.bind_some, Option.map_some, cond_true, cond_false, evArgs, maxI, maxFrom, minI, minFrom, aConv, aBin, aBinE, aEq, eqScal, aUn, aInt, evRes, fin, oneOf, if_true, if_false, callee, evF_eq, withX_some, withX_none, addX, X0, sN0, sN1, sN2, sN3, sN4, reduceCtorEq, Nat.reduceEqDiff, and_self, decide_true, decide_false, beq_true, beq_false, Bool.not_true, Bool.not_false, List.getElem?_cons_zero, List.getElem?_cons_succ, beq_self_eq_true, gt_iff_lt, ble_dec, beq_dec, List.head?_cons, AV.undef, eq_self, ne_eq, not_true_eq_false, not_false_eq_true, Int.reduceLT, Int.reduceLE, Int.reduceToNat, Int.reduceEq, Int.reduceNeg, Nat.reduceAdd, Nat.reduceLT, Nat.reduceLeDiff, Nat.reduceMul, Nat.reduceSub, c0, ht, hr, hq, hmx, hne, w1, w2, w3, c1, c2]
        unfold ext
        rw [if_neg c0]
        dsimp only
        rw [hr]
        congr 3
        split <;> split <;> omega
      · have w4 : IntKind.i64.wrap (a - r + n + 65536) = a - r + n + 65536 := w64_id (by omega) (by omega)
        have w5 : IntKind.i64.wrap (a - r + n + 65536 - a) = a - r + n + 65536 - a := w64_id (by omega) (by omega)
        have c3 : ¬ (32768 < a - r + n + 65536 - a) := by omega
        simp -implicitDefEqProofs -dsimp (maxSteps := 10000000) only [af23, evC, evOps, evOper, wanted, evAny, AOp.calls, evOp, XO.ev, XO.lit, setArgs, putD, Tr.get_set, Option.bind_some, Option.map_some, cond_true, cond_false, evArgs, maxI, maxFrom, minI, minFrom, aConv, aBin, aBinE, aEq, eqScal, aUn, aInt, evRes, fin, oneOf, if_true, if_false, callee, evF_eq, withX_some, withX_none, addX, X0, sN0, sN1, sN2, sN3, sN4, reduceCtorEq, Nat.reduceEqDiff, and_self, decide_true, decide_false, beq_true, beq_false, Bool.not_true, Bool.not_false, List.getElem?_cons_zero, List.getElem?_cons_succ, beq_self_eq_true, gt_iff_lt, ble_dec, beq_dec, List.head?_cons, AV.undef, eq_self, ne_eq, not_true_eq_false, not_false_eq_true, Int.reduceLT, Int.reduceLE, Int.reduceToNat, Int.reduceEq, Int.reduceNeg, Nat.reduceAdd, Nat.reduceLT, Nat.reduceLeDiff, Nat.reduceMul, Nat.reduceSub, c0, ht, hr, hq, hmx, hne, w1, w2, w3, w4, w5, c1, c2, c3]
        unfold ext
        rw [if_neg c0]
        dsimp only
        rw [hr]
        congr 3
        split <;> split <;> omega
    · have w5 : IntKind.i64.wrap (a - r + n - a) = a - r + n - a := w64_id (by omega) (by omega)
      by_cases c3 : 32768 < a - r + n - a
      · by_cases c4 : 65536 ≤ a - r + n
        · have w6 : IntKind.i64.wrap (a - r + n - 65536) = a - r + n - 65536 := w64_id (by omega) (by omega)
          simp -implicitDefEqProofs -dsimp (maxSteps := 10000000) only [af23, evC, evOps, evOper, wanted, evAny, AOp.calls, evOp, XO.ev, XO.lit, setArgs, putD, Tr.get_set, Option.bind_some, Option.map_some, cond_true, cond_false, evArgs, maxI, maxFrom, minI, minFrom, aConv, aBin, aBinE, aEq, eqScal, aUn, aInt, evRes, fin, oneOf, if_true, if_false, callee, evF_eq, withX_some, withX_none, addX, X0, sN0, sN1, sN2, sN3, sN4, reduceCtorEq, Nat.reduceEqDiff, and_self, decide_true, decide_false, beq_true, beq_false, Bool.not_true, Bool.not_false, List.getElem?_cons_zero, List.getElem?_cons_succ, beq_self_eq_true, gt_iff_lt, ble_dec, beq_dec, List.head?_cons, AV.undef, eq_self, ne_eq, not_true_eq_false, not_false_eq_true, Int.reduceLT, Int.reduceLE, Int.reduceToNat, Int.reduceEq, Int.reduceNeg, Nat.reduceAdd, Nat.reduceLT, Nat.reduceLeDiff, Nat.reduceMul, Nat.reduceSub, c0, ht, hr, hq, hmx, hne, w1, w2, w3, w5, w6, c1, c3, c4]
          unfold ext
          rw [if_neg c0]
          dsimp only
          rw [hr]
          congr 3
          split <;> split <;> omega
        · simp -implicitDefEqProofs -dsimp (maxSteps := 10000000) only [af23, evC, evOps, evOper, wanted, evAny, AOp.calls, evOp, XO.ev, XO.lit, setArgs, putD, Tr.get_set, Option.bind_some, Option.map_some, cond_true, cond_false, evArgs, maxI, maxFrom, minI, minFrom, aConv, aBin, aBinE, aEq, eqScal, aUn, aInt, evRes, fin, oneOf, if_true, if_false, callee, evF_eq, withX_some, withX_none, addX, X0, sN0, sN1, sN2, sN3, sN4, reduceCtorEq, Nat.reduceEqDiff, and_self, decide_true, decide_false, beq_true, beq_false, Bool.not_true, Bool.not_false, List.getElem?_cons_zero, List.getElem?_cons_succ, beq_self_eq_true, gt_iff_lt, ble_dec, beq_dec, List.head?_cons, AV.undef, eq_self, ne_eq, not_true_eq_false, not_false_eq_true, Int.reduceLT, Int.reduceLE, Int.reduceToNat, Int.reduceEq, Int.reduceNeg, Nat.reduceAdd, Nat.reduceLT, Nat.reduceLeDiff, Nat.reduceMul, Nat.reduceSub, c0, ht, hr, hq, hmx, hne, w1, w2, w3, w5, c1, c3, c4]
          unfold ext
          rw [if_neg c0]
          dsimp only
          rw [hr]
          congr 3
          split <;> split <;> omega
      · simp -implicitDefEqProofs -dsimp (maxSteps := 10000000) only [af23, evC, evOps, evOper, wanted, evAny, AOp.calls, evOp, XO.ev, XO.lit, setArgs, putD, Tr.get_set, Option.bind_some, Option.map_some, cond_true, cond_false, evArgs, maxI, maxFrom, minI, minFrom, aConv, aBin, aBinE, aEq, eqScal, aUn, aInt, evRes, fin, oneOf, if_true, if_false, callee, evF_eq, withX_some, withX_none, addX, X0, sN0, sN1, sN2, sN3, sN4, reduceCtorEq, Nat.reduceEqDiff, and_self, decide_true, decide_false, beq_true, beq_false, Bool.not_true, Bool.not_false, List.getElem?_cons_zero, List.getElem?_cons_succ, beq_self_eq_true, gt_iff_lt, ble_dec, beq_dec, List.head?_cons, AV.undef, eq_self, ne_eq, not_true_eq_false, not_false_eq_true, Int.reduceLT, Int.reduceLE, Int.reduceToNat, Int.reduceEq, Int.reduceNeg, Nat.reduceAdd, Nat.reduceLT, Nat.reduceLeDiff, Nat.reduceMul, Nat.reduceSub, c0, ht, hr, hq, hmx, hne, w1, w2, w3, w5, c1, c3]
        unfold ext
        rw [if_neg c0]
        dsimp only
        rw [hr]
        congr 3
        split <;> split <;> omega

theorem ev23b {a n : Int} (ha : I64 a) (h0 : 0 ≤ n) (h1 : n < 4294967296) : evF X0 AP 3 23 [.int .i64 a, .int .i64 n, .int .i64 4294967296] S0 = some (.int .i64 (ext 4294967296 a n), S0) := by
  rw [evF_body (af := af23) rfl rfl rfl]
  have := ha.2
  have hq : IntKind.i64.wrap (Int.tdiv 4294967296 2) = 2147483648 := by decide
  have hmx : IntKind.i64.wrap (9223372036854775807 - 4294967296) = 9223372032559808511 := by decide
  have hne : ¬ ((4294967296 : Int) = 0) := by decide
  by_cases c0 : a < 0
  · simp -implicitDefEqProofs -dsimp (maxSteps := 10000000) only [af23, evC, evOps, evOper, wanted, evAny, AOp.calls, evOp, XO.ev, XO.lit, setArgs, putD, Tr.get_set, Option.bind_some, Option.map_some, cond_true, cond_false, evArgs, maxI, maxFrom, minI, minFrom, aConv, aBin, aBinE, aEq, eqScal, aUn, aInt, evRes, fin, oneOf, if_true, if_false, callee, evF_eq, withX_some, withX_none, addX, X0, sN0, sN1, sN2, sN3, sN4, reduceCtorEq, Nat.reduceEqDiff, and_self, decide_true, decide_false, beq_true, beq_false, Bool.not_true, Bool.not_false, List.getElem?_cons_zero, List.getElem?_cons_succ, beq_self_eq_true, gt_iff_lt, ble_dec, beq_dec, List.head?_cons, AV.undef, eq_self, ne_eq, not_true_eq_false, not_false_eq_true, Int.reduceLT, Int.reduceLE, Int.reduceToNat, Int.reduceEq, Int.reduceNeg, Nat.reduceAdd, Nat.reduceLT, Nat.reduceLeDiff, Nat.reduceMul, Nat.reduceSub, c0]
    unfold ext
    rw [if_pos c0]
  · have ht : Int.tmod a 4294967296 = a % 4294967296 := Int.tmod_eq_emod_of_nonneg (by omega)
    obtain ⟨r, hr⟩ : ∃ r, a % 4294967296 = r := ⟨_, rfl⟩
    have hr0 : 0 ≤ r := by omega
    have hr1 : r < 4294967296 := by omega
    have hra : r ≤ a := by omega
    have hdv : ∃ q, a = 4294967296 * q + r := ⟨a / 4294967296, by omega⟩
    obtain ⟨q, hdv⟩ := hdv
    have w1 : IntKind.i64.wrap (a - r) = a - r := w64_id (by omega) (by omega)
    have w2 : IntKind.i64.wrap (a - r + n) = a - r + n := w64_id (by omega) (by omega)
    have w3 : IntKind.i64.wrap (a - (a - r + n)) = a - (a - r + n) := w64_id (by omega) (by omega)
    by_cases c1 : 2147483648 ≤ a - (a - r + n)
    · by_cases c2 : 9223372032559808511 < a - r + n
      · simp -implicitDefEqProofs -dsimp (maxSteps := 10000000) only [af23, evC, evOps, evOper, wanted, evAny, AOp.calls, evOp, XO.ev, XO.lit, setArgs, putD, Tr.get_set, Option.bind_some, Option.map_some, cond_true, cond_false, evArgs, maxI, maxFrom, minI, minFrom, aConv, aBin, aBinE, aEq, eqScal, aUn, aInt, evRes, fin, oneOf, if_true, if_false, callee, evF_eq, withX_some, withX_none, addX, X0, sN0, sN1, sN2, sN3, sN4, reduceCtorEq, Nat.reduceEqDiff, and_self, decide_true, decide_false, beq_true, beq_false, Bool.not_true, Bool.not_false, List.getElem?_cons_zero, List.getElem?_cons_succ, beq_self_eq_true, gt_iff_lt, ble_dec, beq_dec, List.head?_cons, AV.undef, eq_self, ne_eq, not_true_eq_false, not_false_eq_true, Int.reduceLT, Int.reduceLE, Int.reduceToNat, Int.reduceEq, Int.reduceNeg, Nat.reduceAdd, Nat.reduceLT, Nat.reduceLeDiff, Nat.reduceMul, Nat.reduceSub, c0, ht, hr, hq, hmx, hne, w1, w2, w3, c1, c2]
        unfold ext
        rw [if_neg c0]
        dsimp only
        rw [hr]
        congr 3
        split <;> split <;> omega
      · have w4 : IntKind.i64.wrap (a - r + n + 4294967296) = a - r + n + 4294967296 := w64_id (by omega) (by omega)
        have w5 : IntKind.i64.wrap (a - r + n + 4294967296 - a) = a - r + n + 4294967296 - a := w64_id (by omega) (by omega)
        have c3 : ¬ (2147483648 < a - r + n + 4294967296 - a) := by omega
        simp -implicitDefEqProofs -dsimp (maxSteps := 10000000) only [af23, evC, evOps, evOper, wanted, evAny, AOp.calls, evOp, XO.ev, XO.lit, setArgs, putD, Tr.get_set, Option.bind_some, Option.map_some, cond_true, cond_false, evArgs, maxI, maxFrom, minI, minFrom, aConv, aBin, aBinE, aEq, eqScal, aUn, aInt, evRes, fin, oneOf, if_true, if_false, callee, evF_eq, withX_some, withX_none, addX, X0, sN0, sN1, sN2, sN3, sN4, reduceCtorEq, Nat.reduceEqDiff, and_self, decide_true, decide_false, beq_true, beq_false, Bool.not_true, Bool.not_false, List.getElem?_cons_zero, List.getElem?_cons_succ, beq_self_eq_true, gt_iff_lt, ble_dec, beq_dec, List.head?_cons, AV.undef, eq_self, ne_eq, not_true_eq_false, not_false_eq_true, Int.reduceLT, Int.reduceLE, Int.reduceToNat, Int.reduceEq, Int.reduceNeg, Nat.reduceAdd, Nat.reduceLT, Nat.reduceLeDiff, Nat.reduceMul, Nat.reduceSub, c0, ht, hr, hq, hmx, hne, w1, w2, w3, w4, w5, c1, c2, c3]
        unfold ext
        rw [if_neg c0]
        dsimp only
        rw [hr]
        congr 3
        split <;> split <;> omega
    · have w5 : IntKind.i64.wrap (a - r + n - a) = a - r + n - a := w64_id (by omega) (by omega)
      by_cases c3 : 2147483648 < a - r + n - a
      · by_cases c4 : 4294967296 ≤ a - r + n
        · have w6 : IntKind.i64.wrap (a - r + n - 4294967296) = a - r + n - 4294967296 := w64_id (by omega) (by omega)
          simp -implicitDefEqProofs -dsimp (maxSteps := 10000000) only [af23, evC, evOps, evOper, wanted, evAny, AOp.calls, evOp, XO.ev, XO.lit, setArgs, putD, Tr.get_set, Option.bind_some, Option.map_some, cond_true, cond_false, evArgs, maxI, maxFrom, minI, minFrom, aConv, aBin, aBinE, aEq, eqScal, aUn, aInt, evRes, fin, oneOf, if_true, if_false, callee, evF_eq, withX_some, withX_none, addX, X0, sN0, sN1, sN2, sN3, sN4, reduceCtorEq, Nat.reduceEqDiff, and_self, decide_true, decide_false, beq_true, beq_false, Bool.not_true, Bool.not_false, List.getElem?_cons_zero, List.getElem?_cons_succ, beq_self_eq_true, gt_iff_lt, ble_dec, beq_dec, List.head?_cons, AV.undef, eq_self, ne_eq, not_true_eq_false, not_false_eq_true, Int.reduceLT, Int.reduceLE, Int.reduceToNat, Int.reduceEq, Int.reduceNeg, Nat.reduceAdd, Nat.reduceLT, Nat.reduceLeDiff, Nat.reduceMul, Nat.reduceSub, c0, ht, hr, hq, hmx, hne, w1, w2, w3, w5, w6, c1, c3, c4]
          unfold ext
          rw [if_neg c0]
          dsimp only
          rw [hr]
          congr 3
          split <;> split <;> omega
        · simp -implicitDefEqProofs -dsimp (maxSteps := 10000000) only [af23, evC, evOps, evOper, wanted, evAny, AOp.calls, evOp, XO.ev, XO.lit, setArgs, putD, Tr.get_set, Option.bind_some, Option.map_some, cond_true, cond_false, evArgs, maxI, maxFrom, minI, minFrom, aConv, aBin, aBinE, aEq, eqScal, aUn, aInt, evRes, fin, oneOf, if_true, if_false, callee, evF_eq, withX_some, withX_none, addX, X0, sN0, sN1, sN2, sN3, sN4, reduceCtorEq, Nat.reduceEqDiff, and_self, decide_true, decide_false, beq_true, beq_false, Bool.not_true, Bool.not_false, List.getElem?_cons_zero, List.getElem?_cons_succ, beq_self_eq_true, gt_iff_lt, ble_dec, beq_dec, List.head?_cons, AV.undef, eq_self, ne_eq, not_true_eq_false, not_false_eq_true, Int.reduceLT, Int.reduceLE, Int.reduceToNat, Int.reduceEq, Int.reduceNeg, Nat.reduceAdd, Nat.reduceLT, Nat.reduceLeDiff, Nat.reduceMul, Nat.reduceSub, c0, ht, hr, hq, hmx, hne, w1, w2, w3, w5, c1, c3, c4]
          unfold ext
          rw [if_neg c0]
          dsimp only
          rw [hr]
          congr 3
          split <;> split <;> omega
      · simp -implicitDefEqProofs -dsimp (maxSteps := 10000000) only [af23, evC, evOps, evOper, wanted, evAny, AOp.calls, evOp, XO.ev, XO.lit, setArgs, putD, Tr.get_set, Option.bind_some, Option.map_some, cond_true, cond_false, evArgs, maxI, maxFrom, minI, minFrom, aConv, aBin, aBinE, aEq, eqScal, aUn, aInt, evRes, fin, oneOf, if_true, if_false, callee, evF_eq, withX_some, withX_none, addX, X0, sN0, sN1, sN2, sN3, sN4, reduceCtorEq, Nat.reduceEqDiff, and_self, decide_true, decide_false, beq_true, beq_false, Bool.not_true, Bool.not_false, List.getElem?_cons_zero, List.getElem?_cons_succ, beq_self_eq_true, gt_iff_lt, ble_dec, beq_dec, List.head?_cons, AV.undef, eq_self, ne_eq, not_true_eq_false, not_false_eq_true, Int.reduceLT, Int.reduceLE, Int.reduceToNat, Int.reduceEq, Int.reduceNeg, Nat.reduceAdd, Nat.reduceLT, Nat.reduceLeDiff, Nat.reduceMul, Nat.reduceSub, c0, ht, hr, hq, hmx, hne, w1, w2, w3, w5, c1, c3]
        unfold ext
        rw [if_neg c0]
        dsimp only
        rw [hr]
        congr 3
        split <;> split <;> omega

theorem ev17 {a n : Int} (ha : I64 a) (h0 : 0 ≤ n) (h1 : n < 65536) : evF X0 AP 4 17 [.int .i64 a, .int .u16 n] S0 = some (.int .i64 (ext 65536 a n), S0) := by
  rw [evF_body (af := af17) rfl rfl rfl]
  have w : IntKind.i64.wrap n = n := w64_id (by omega) (by omega)
  simp -implicitDefEqProofs -dsimp (maxSteps := 10000000) only [af17, evC, evOps, evOper, wanted, evAny, AOp.calls, evOp, XO.ev, XO.lit, setArgs, putD, Tr.get_set, Option.bind_some, Option.map_some, cond_true, cond_false, evArgs, maxI, maxFrom, minI, minFrom, aConv, aBin, aBinE, aEq, eqScal, aUn, aInt, evRes, fin, oneOf, if_true, if_false, callee, withX_some, withX_none, addX, X0, sN0, sN1, sN2, sN3, sN4, reduceCtorEq, Nat.reduceEqDiff, and_self, decide_true, decide_false, beq_true, beq_false, Bool.not_true, Bool.not_false, List.getElem?_cons_zero, List.getElem?_cons_succ, beq_self_eq_true, gt_iff_lt, ble_dec, beq_dec, List.head?_cons, AV.undef, eq_self, ne_eq, not_true_eq_false, not_false_eq_true, Int.reduceLT, Int.reduceLE, Int.reduceToNat, Int.reduceEq, Int.reduceNeg, Nat.reduceAdd, Nat.reduceLT, Nat.reduceLeDiff, Nat.reduceMul, Nat.reduceSub, w, ev23a ha h0 h1]
theorem ev18 {a n : Int} (ha : I64 a) (h0 : 0 ≤ n) (h1 : n < 4294967296) : evF X0 AP 4 18 [.int .i64 a, .int .u32 n] S0 = some (.int .i64 (ext 4294967296 a n), S0) := by
  rw [evF_body (af := af18) rfl rfl rfl]
  have w : IntKind.i64.wrap n = n := w64_id (by omega) (by omega)
  simp -implicitDefEqProofs -dsimp (maxSteps := 10000000) only [af18, evC, evOps, evOper, wanted, evAny, AOp.calls, evOp, XO.ev, XO.lit, setArgs, putD, Tr.get_set, Option.bind_some, Option.map_some, cond_true, cond_false, evArgs, maxI, maxFrom, minI, minFrom, aConv, aBin, aBinE, aEq, eqScal, aUn, aInt, evRes, fin, oneOf, if_true, if_false, callee, withX_some, withX_none, addX, X0, sN0, sN1, sN2, sN3, sN4, reduceCtorEq, Nat.reduceEqDiff, and_self, decide_true, decide_false, beq_true, beq_false, Bool.not_true, Bool.not_false, List.getElem?_cons_zero, List.getElem?_cons_succ, beq_self_eq_true, gt_iff_lt, ble_dec, beq_dec, List.head?_cons, AV.undef, eq_self, ne_eq, not_true_eq_false, not_false_eq_true, Int.reduceLT, Int.reduceLE, Int.reduceToNat, Int.reduceEq, Int.reduceNeg, Nat.reduceAdd, Nat.reduceLT, Nat.reduceLeDiff, Nat.reduceMul, Nat.reduceSub, w, ev23b ha h0 h1]
def X4 := addX X3 17 (sN2 .i64 .u16 fun a n => .int .i64 (ext 65536 a n))
def X5 := addX X4 18 (sN2 .i64 .u32 fun a n => .int .i64 (ext 4294967296 a n))
theorem ok4 : XOk Try.prog X4 := addX_any ok3 (X0_ok _) (addX_N2 mixed (X0_ok _) apOk (entry_of apOk (af := af17) rfl) (fun _ _ => rfl) fun a n wa wn => ⟨4, S0, ev17 (wf_i64 wa) (wf_u16 wn).1 (by have := (wf_u16 wn).2; omega)⟩)
theorem ok5 : XOk Try.prog X5 := addX_any ok4 (X0_ok _) (addX_N2 mixed (X0_ok _) apOk (entry_of apOk (af := af18) rfl) (fun _ _ => rfl) fun a n wa wn => ⟨4, S0, ev18 (wf_i64 wa) (wf_u32 wn).1 (by have := (wf_u32 wn).2; omega)⟩)
theorem ev8 (a n m : Int) : evF X5 AP 4 8 [.int .i64 a, .int .u16 n, .int .u32 m] S0 = some (.bool true, S0) := by
  rw [evF_body (af := af8) rfl rfl rfl]
  simp -implicitDefEqProofs -dsimp (maxSteps := 10000000) only [af8, evC, evOps, evOper, wanted, evAny, AOp.calls, evOp, XO.ev, XO.lit, setArgs, putD, Tr.get_set, Option.bind_some, Option.map_some, cond_true, cond_false, evArgs, maxI, maxFrom, minI, minFrom, aConv, aBin, aBinE, aEq, eqScal, aUn, aInt, evRes, fin, oneOf, if_true, if_false, callee, evF_eq, withX_some, withX_none, addX, X0, sN0, sN1, sN2, sN3, sN4, reduceCtorEq, Nat.reduceEqDiff, and_self, decide_true, decide_false, beq_true, beq_false, Bool.not_true, Bool.not_false, List.getElem?_cons_zero, List.getElem?_cons_succ, beq_self_eq_true, gt_iff_lt, ble_dec, beq_dec, List.head?_cons, AV.undef, eq_self, ne_eq, not_true_eq_false, not_false_eq_true, Int.reduceLT, Int.reduceLE, Int.reduceToNat, Int.reduceEq, Int.reduceNeg, Nat.reduceAdd, Nat.reduceLT, Nat.reduceLeDiff, Nat.reduceMul, Nat.reduceSub, X5, X4, X3, X2, X1]
def X6 := addX X5 8 (sN3 .i64 .u16 .u32 fun _ _ _ => .bool true)
theorem ok6 : XOk Try.prog X6 := addX_N3 mixed ok5 apOk (entry_of apOk (af := af8) rfl) (fun _ _ _ => rfl) fun a n m _ _ _ => ⟨4, S0, ev8 a n m⟩
end Go.Proofs.YtanloaedpalblaaA
