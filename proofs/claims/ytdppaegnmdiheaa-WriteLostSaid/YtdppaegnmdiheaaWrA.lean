/- Chapter 21: numbers that go on, sums. -/
import Derived.Test.YtdppaegnmdiheaaAf
import Derived.Test.YtdppaegnmdiheaaAeNum
import Derived.Test.YtdppaegnmdiheaaAeS8
set_option linter.unusedVariables false
set_option linter.unusedSimpArgs false
set_option maxRecDepth 10000
namespace Go.Proofs.YtdppaegnmdiheaaA
open Go.RowKit
attribute [local congr] bind_congr1 map_congr1 cond_congr1 withX_congr

def ext (M last n : Int) : Int :=
  if last < 0 then n else
    let d := (n - last % M + M) % M
    let e := if M / 2 < d ∨ 9223372036854775807 - d < last then d - M else d
    if last + e < 0 then n else last + e
theorem shl16 : IntKind.i64.wrap (1 * 2 ^ min 16 (IntKind.bits .i64)) = 65536 := by decide
theorem shl32 : IntKind.i64.wrap (1 * 2 ^ min 32 (IntKind.bits .i64)) = 4294967296 := by decide
theorem m16 : IntKind.i64.wrap (65536 - 1) = 65535 := by decide
theorem m32 : IntKind.i64.wrap (4294967296 - 1) = 4294967295 := by decide
theorem a16 (x : Int) : Go.bits .and .i64 x 65535 = x % 65536 := and_i64 16 (by decide) x
theorem a32 (x : Int) : Go.bits .and .i64 x 4294967295 = x % 4294967296 := and_i64 32 (by decide) x
theorem d16 : IntKind.i64.wrap (Int.tdiv 65536 2) = 32768 := by decide
theorem d32 : IntKind.i64.wrap (Int.tdiv 4294967296 2) = 2147483648 := by decide
theorem ev30 {a n : Int} (ha : I64 a) (h0 : 0 ≤ n) (h1 : n < 4294967296) : evF X0 AP 3 30 [.int .i64 a, .int .i64 n, .int .i64 32] S0 = some (.int .i64 (ext 4294967296 a n), S0) := by
  rw [evF_body (af := af30) rfl rfl rfl]
  have w1 : IntKind.i64.wrap (n - a % 4294967296) = n - a % 4294967296 := w64_id (by omega) (by omega)
  have w2 : IntKind.i64.wrap (n - a % 4294967296 + 4294967296) = n - a % 4294967296 + 4294967296 := w64_id (by omega) (by omega)
  have hd0 : 0 ≤ (n - a % 4294967296 + 4294967296) % 4294967296 := by omega
  have hd1 : (n - a % 4294967296 + 4294967296) % 4294967296 < 4294967296 := by omega
  by_cases ha0 : a < 0
  · simp -implicitDefEqProofs (maxSteps := 10000000) only [af30, evC, evOps, evOper, wanted, evAny, AOp.calls, evOp, XO.ev, XO.lit, setArgs, putD, Tr.get_set, Option.bind_some, Option.map_some, cond_true, cond_false, evArgs, maxI, maxFrom, minI, minFrom, aConv, aBin, aBinE, aEq, eqScal, aUn, aInt, evRes, fin, oneOf, if_true, if_false, callee, evF_eq, withX_some, withX_none, addX, X0, sN0, sN1, sN2, sN3, sN4, reduceCtorEq, Nat.reduceEqDiff, and_self, decide_true, decide_false, beq_true, beq_false, Bool.not_true, Bool.not_false, List.getElem?_cons_zero, List.getElem?_cons_succ, beq_self_eq_true, gt_iff_lt, ble_dec, beq_dec, List.head?_cons, AV.undef, eq_self, ne_eq, not_true_eq_false, not_false_eq_true, Int.reduceLT, Int.reduceLE, Int.reduceToNat, Int.reduceEq, Int.reduceNeg, Nat.reduceAdd, Nat.reduceLT, Nat.reduceLeDiff, Nat.reduceMul, Nat.reduceSub, shl32, ha0]
    unfold ext
    rw [if_pos ha0]
  · obtain ⟨d, hd⟩ : ∃ d, (n - a % 4294967296 + 4294967296) % 4294967296 = d := ⟨_, rfl⟩
    have w3 : IntKind.i64.wrap (9223372036854775807 - d) = 9223372036854775807 - d := w64_id (by omega) (by omega)
    have w4 : IntKind.i64.wrap (d - 4294967296) = d - 4294967296 := w64_id (by omega) (by omega)
    have := ha.2
    unfold ext
    rw [if_neg ha0]
    simp only [hd]
    have cc : ((4294967296 : Int) / 2 < d ∨ 9223372036854775807 - d < a) ↔ (2147483648 < d ∨ 9223372036854775807 - d < a) := by omega
    simp only [cc]
    by_cases c1 : 2147483648 < d
    · have w5 : IntKind.i64.wrap (a + (d - 4294967296)) = a + (d - 4294967296) := w64_id (by omega) (by omega)
      rw [if_pos (show 2147483648 < d ∨ 9223372036854775807 - d < a from .inl c1)]
      by_cases c3 : a + (d - 4294967296) < 0
      · simp -implicitDefEqProofs (maxSteps := 10000000) only [af30, evC, evOps, evOper, wanted, evAny, AOp.calls, evOp, XO.ev, XO.lit, setArgs, putD, Tr.get_set, Option.bind_some, Option.map_some, cond_true, cond_false, evArgs, maxI, maxFrom, minI, minFrom, aConv, aBin, aBinE, aEq, eqScal, aUn, aInt, evRes, fin, oneOf, if_true, if_false, callee, evF_eq, withX_some, withX_none, addX, X0, sN0, sN1, sN2, sN3, sN4, reduceCtorEq, Nat.reduceEqDiff, and_self, decide_true, decide_false, beq_true, beq_false, Bool.not_true, Bool.not_false, List.getElem?_cons_zero, List.getElem?_cons_succ, beq_self_eq_true, gt_iff_lt, ble_dec, beq_dec, List.head?_cons, AV.undef, eq_self, ne_eq, not_true_eq_false, not_false_eq_true, Int.reduceLT, Int.reduceLE, Int.reduceToNat, Int.reduceEq, Int.reduceNeg, Nat.reduceAdd, Nat.reduceLT, Nat.reduceLeDiff, Nat.reduceMul, Nat.reduceSub, shl32, m32, a32, d32, ha0, w1, w2, hd, w3, w4, w5, c1, c3]
      · simp -implicitDefEqProofs (maxSteps := 10000000) only [af30, evC, evOps, evOper, wanted, evAny, AOp.calls, evOp, XO.ev, XO.lit, setArgs, putD, Tr.get_set, Option.bind_some, Option.map_some, cond_true, cond_false, evArgs, maxI, maxFrom, minI, minFrom, aConv, aBin, aBinE, aEq, eqScal, aUn, aInt, evRes, fin, oneOf, if_true, if_false, callee, evF_eq, withX_some, withX_none, addX, X0, sN0, sN1, sN2, sN3, sN4, reduceCtorEq, Nat.reduceEqDiff, and_self, decide_true, decide_false, beq_true, beq_false, Bool.not_true, Bool.not_false, List.getElem?_cons_zero, List.getElem?_cons_succ, beq_self_eq_true, gt_iff_lt, ble_dec, beq_dec, List.head?_cons, AV.undef, eq_self, ne_eq, not_true_eq_false, not_false_eq_true, Int.reduceLT, Int.reduceLE, Int.reduceToNat, Int.reduceEq, Int.reduceNeg, Nat.reduceAdd, Nat.reduceLT, Nat.reduceLeDiff, Nat.reduceMul, Nat.reduceSub, shl32, m32, a32, d32, ha0, w1, w2, hd, w3, w4, w5, c1, c3]
    · by_cases c2 : 9223372036854775807 - d < a
      · have w5 : IntKind.i64.wrap (a + (d - 4294967296)) = a + (d - 4294967296) := w64_id (by omega) (by omega)
        rw [if_pos (show 2147483648 < d ∨ 9223372036854775807 - d < a from .inr c2)]
        by_cases c3 : a + (d - 4294967296) < 0
        · simp -implicitDefEqProofs (maxSteps := 10000000) only [af30, evC, evOps, evOper, wanted, evAny, AOp.calls, evOp, XO.ev, XO.lit, setArgs, putD, Tr.get_set, Option.bind_some, Option.map_some, cond_true, cond_false, evArgs, maxI, maxFrom, minI, minFrom, aConv, aBin, aBinE, aEq, eqScal, aUn, aInt, evRes, fin, oneOf, if_true, if_false, callee, evF_eq, withX_some, withX_none, addX, X0, sN0, sN1, sN2, sN3, sN4, reduceCtorEq, Nat.reduceEqDiff, and_self, decide_true, decide_false, beq_true, beq_false, Bool.not_true, Bool.not_false, List.getElem?_cons_zero, List.getElem?_cons_succ, beq_self_eq_true, gt_iff_lt, ble_dec, beq_dec, List.head?_cons, AV.undef, eq_self, ne_eq, not_true_eq_false, not_false_eq_true, Int.reduceLT, Int.reduceLE, Int.reduceToNat, Int.reduceEq, Int.reduceNeg, Nat.reduceAdd, Nat.reduceLT, Nat.reduceLeDiff, Nat.reduceMul, Nat.reduceSub, shl32, m32, a32, d32, ha0, w1, w2, hd, w3, w4, w5, c1, c2, c3]
        · simp -implicitDefEqProofs (maxSteps := 10000000) only [af30, evC, evOps, evOper, wanted, evAny, AOp.calls, evOp, XO.ev, XO.lit, setArgs, putD, Tr.get_set, Option.bind_some, Option.map_some, cond_true, cond_false, evArgs, maxI, maxFrom, minI, minFrom, aConv, aBin, aBinE, aEq, eqScal, aUn, aInt, evRes, fin, oneOf, if_true, if_false, callee, evF_eq, withX_some, withX_none, addX, X0, sN0, sN1, sN2, sN3, sN4, reduceCtorEq, Nat.reduceEqDiff, and_self, decide_true, decide_false, beq_true, beq_false, Bool.not_true, Bool.not_false, List.getElem?_cons_zero, List.getElem?_cons_succ, beq_self_eq_true, gt_iff_lt, ble_dec, beq_dec, List.head?_cons, AV.undef, eq_self, ne_eq, not_true_eq_false, not_false_eq_true, Int.reduceLT, Int.reduceLE, Int.reduceToNat, Int.reduceEq, Int.reduceNeg, Nat.reduceAdd, Nat.reduceLT, Nat.reduceLeDiff, Nat.reduceMul, Nat.reduceSub, shl32, m32, a32, d32, ha0, w1, w2, hd, w3, w4, w5, c1, c2, c3]
      · have w5 : IntKind.i64.wrap (a + d) = a + d := w64_id (by omega) (by omega)
        rw [if_neg (show ¬ (2147483648 < d ∨ 9223372036854775807 - d < a) by omega)]
        have c3 : ¬ a + d < 0 := by omega
        simp -implicitDefEqProofs (maxSteps := 10000000) only [af30, evC, evOps, evOper, wanted, evAny, AOp.calls, evOp, XO.ev, XO.lit, setArgs, putD, Tr.get_set, Option.bind_some, Option.map_some, cond_true, cond_false, evArgs, maxI, maxFrom, minI, minFrom, aConv, aBin, aBinE, aEq, eqScal, aUn, aInt, evRes, fin, oneOf, if_true, if_false, callee, evF_eq, withX_some, withX_none, addX, X0, sN0, sN1, sN2, sN3, sN4, reduceCtorEq, Nat.reduceEqDiff, and_self, decide_true, decide_false, beq_true, beq_false, Bool.not_true, Bool.not_false, List.getElem?_cons_zero, List.getElem?_cons_succ, beq_self_eq_true, gt_iff_lt, ble_dec, beq_dec, List.head?_cons, AV.undef, eq_self, ne_eq, not_true_eq_false, not_false_eq_true, Int.reduceLT, Int.reduceLE, Int.reduceToNat, Int.reduceEq, Int.reduceNeg, Nat.reduceAdd, Nat.reduceLT, Nat.reduceLeDiff, Nat.reduceMul, Nat.reduceSub, shl32, m32, a32, d32, ha0, w1, w2, hd, w3, w4, w5, c1, c2, c3]
theorem ev19 {a n : Int} (ha : I64 a) (h0 : 0 ≤ n) (h1 : n < 4294967296) : evF X0 AP 4 19 [.int .i64 a, .int .u32 n] S0 = some (.int .i64 (ext 4294967296 a n), S0) := by
  rw [evF_body (af := af19) rfl rfl rfl]
  have w : IntKind.i64.wrap n = n := w64_id (by omega) (by omega)
  simp -implicitDefEqProofs (maxSteps := 10000000) only [af19, evC, evOps, evOper, wanted, evAny, AOp.calls, evOp, XO.ev, XO.lit, setArgs, putD, Tr.get_set, Option.bind_some, Option.map_some, cond_true, cond_false, evArgs, maxI, maxFrom, minI, minFrom, aConv, aBin, aBinE, aEq, eqScal, aUn, aInt, evRes, fin, oneOf, if_true, if_false, callee, withX_some, withX_none, addX, X0, sN0, sN1, sN2, sN3, sN4, reduceCtorEq, Nat.reduceEqDiff, and_self, decide_true, decide_false, beq_true, beq_false, Bool.not_true, Bool.not_false, List.getElem?_cons_zero, List.getElem?_cons_succ, beq_self_eq_true, gt_iff_lt, ble_dec, beq_dec, List.head?_cons, AV.undef, eq_self, ne_eq, not_true_eq_false, not_false_eq_true, Int.reduceLT, Int.reduceLE, Int.reduceToNat, Int.reduceEq, Int.reduceNeg, Nat.reduceAdd, Nat.reduceLT, Nat.reduceLeDiff, Nat.reduceMul, Nat.reduceSub, w, ev30 ha h0 h1]
theorem addX_any {X Y : Nat → List AV → Option AV} (hX : XOk Try.prog X) (hY : XOk Try.prog Y) {g : Nat} {s : List AV → Option AV} (h : XOk Try.prog (addX Y g s)) : XOk Try.prog (addX X g s) := by
  intro f args v hv
  unfold addX at hv
  by_cases hf : f = g
  · rw [if_pos hf] at hv
    exact h f args v (by unfold addX; rw [if_pos hf]; exact hv)
  · rw [if_neg hf] at hv
    exact hX f args v hv
theorem ev33 {a n : Int} (ha : I64 a) (h0 : 0 ≤ n) (h1 : n < 4294967296) : evF X0 AP 3 33 [.int .i64 a, .int .i64 n, .int .i64 4294967296] S0 = some (.int .i64 (ext 4294967296 a n), S0) := by
  rw [evF_body (af := af33) rfl rfl rfl]
  have := ha.2
  have hq : IntKind.i64.wrap (Int.tdiv 4294967296 2) = 2147483648 := by decide
  have hmx : IntKind.i64.wrap (9223372036854775807 - 4294967296) = 9223372032559808511 := by decide
  have hne : ¬ ((4294967296 : Int) = 0) := by decide
  by_cases c0 : a < 0
  · simp -implicitDefEqProofs -dsimp (maxSteps := 10000000) only [af33, evC, evOps, evOper, wanted, evAny, AOp.calls, evOp, XO.ev, XO.lit, setArgs, putD, Tr.get_set, Option.bind_some, Option.map_some, cond_true, cond_false, evArgs, maxI, maxFrom, minI, minFrom, aConv, aBin, aBinE, aEq, eqScal, aUn, aInt, evRes, fin, oneOf, if_true, if_false, callee, evF_eq, withX_some, withX_none, addX, X0, sN0, sN1, sN2, sN3, sN4, reduceCtorEq, Nat.reduceEqDiff, and_self, decide_true, decide_false, beq_true, beq_false, Bool.not_true, Bool.not_false, List.getElem?_cons_zero, List.getElem?_cons_succ, beq_self_eq_true, gt_iff_lt, ble_dec, beq_dec, List.head?_cons, AV.undef, eq_self, ne_eq, not_true_eq_false, not_false_eq_true, Int.reduceLT, Int.reduceLE, Int.reduceToNat, Int.reduceEq, Int.reduceNeg, Nat.reduceAdd, Nat.reduceLT, Nat.reduceLeDiff, Nat.reduceMul, Nat.reduceSub, c0]
    unfold ext
    rw [if_pos c0]
  · have ht : Int.tmod a 4294967296 = a % 4294967296 := Int.tmod_eq_emod_of_nonneg (by omega)
    obtain ⟨r, hr⟩ : ∃ r, a % 4294967296 = r := ⟨_, rfl⟩
    have hr0 : 0 ≤ r := by omega
    have hr1 : r < 4294967296 := by omega
    have hra : r ≤ a := by omega
    have hdv : ∃ q, a = 4294967296 * q + r := ⟨a / 4294967296, by omega⟩
    obtain ⟨q, hdv⟩ := hdv
    have w1 : IntKind.i64.wrap (a - r) = a - r := w64_id (by omega) (by omega)
    have w2 : IntKind.i64.wrap (a - r + n) = a - r + n := w64_id (by omega) (by omega)
    have w3 : IntKind.i64.wrap (a - (a - r + n)) = a - (a - r + n) := w64_id (by omega) (by omega)
    by_cases c1 : 2147483648 ≤ a - (a - r + n)
    · by_cases c2 : 9223372032559808511 < a - r + n
      · simp -implicitDefEqProofs -dsimp (maxSteps := 10000000) only [af33, evC, evOps, evOper, wanted, evAny, AOp.calls, evOp, XO.ev, XO.lit, setArgs, putD, Tr.get_set, Option.bind_some, Option.map_some, cond_true, cond_false, evArgs, maxI, maxFrom, minI, minFrom, aConv, aBin, aBinE, aEq, eqScal, aUn, aInt, evRes, fin, oneOf, if_true, if_false, callee, evF_eq, withX_some, withX_none, addX, X0, sN0, sN1, sN2, sN3, sN4, reduceCtorEq, Nat.reduceEqDiff, and_self, decide_true, decide_false, beq_true, beq_false, Bool.not_true, Bool.not_false, List.getElem?_cons_zero, List.getElem?_cons_succ, beq_self_eq_true, gt_iff_lt, ble_dec, beq_dec, List.head?_cons, AV.undef, eq_self, ne_eq, not_true_eq_false, not_false_eq_true, Int.reduceLT, Int.reduceLE, Int.reduceToNat, Int.reduceEq, Int.reduceNeg, Nat.reduceAdd, Nat.reduceLT, Nat.reduceLeDiff, Nat.reduceMul, Nat.reduceSub, c0, ht, hr, hq, hmx, hne, w1, w2, w3, c1, c2]
        unfold ext
        rw [if_neg c0]
        dsimp only
        rw [hr]
        congr 3
        split <;> split <;> omega
      · have w4 : IntKind.i64.wrap (a - r + n + 4294967296) = a - r + n + 4294967296 := w64_id (by omega) (by omega)
        have w5 : IntKind.i64.wrap (a - r + n + 4294967296 - a) = a - r + n + 4294967296 - a := w64_id (by omega) (by omega)
        have c3 : ¬ (2147483648 < a - r + n + 4294967296 - a) := by omega
        simp -implicitDefEqProofs -dsimp (maxSteps := 10000000) only [af33, evC, evOps, evOper, wanted, evAny, AOp.calls, evOp, XO.ev, XO.lit, setArgs, putD, Tr.get_set, Option.bind_some, Option.map_some, cond_true, cond_false, evArgs, maxI, maxFrom, minI, minFrom, aConv, aBin, aBinE, aEq, eqScal, aUn, aInt, evRes, fin, oneOf, if_true, if_false, callee, evF_eq, withX_some, withX_none, addX, X0, sN0, sN1, sN2, sN3, sN4, reduceCtorEq, Nat.reduceEqDiff, and_self, decide_true, decide_false, beq_true, beq_false, Bool.not_true, Bool.not_false, List.getElem?_cons_zero, List.getElem?_cons_succ, beq_self_eq_true, gt_iff_lt, ble_dec, beq_dec, List.head?_cons, AV.undef, eq_self, ne_eq, not_true_eq_false, not_false_eq_true, Int.reduceLT, Int.reduceLE, Int.reduceToNat, Int.reduceEq, Int.reduceNeg, Nat.reduceAdd, Nat.reduceLT, Nat.reduceLeDiff, Nat.reduceMul, Nat.reduceSub, c0, ht, hr, hq, hmx, hne, w1, w2, w3, w4, w5, c1, c2, c3]
        unfold ext
        rw [if_neg c0]
        dsimp only
        rw [hr]
        congr 3
        split <;> split <;> omega
    · have w5 : IntKind.i64.wrap (a - r + n - a) = a - r + n - a := w64_id (by omega) (by omega)
      by_cases c3 : 2147483648 < a - r + n - a
      · by_cases c4 : 4294967296 ≤ a - r + n
        · have w6 : IntKind.i64.wrap (a - r + n - 4294967296) = a - r + n - 4294967296 := w64_id (by omega) (by omega)
          simp -implicitDefEqProofs -dsimp (maxSteps := 10000000) only [af33, evC, evOps, evOper, wanted, evAny, AOp.calls, evOp, XO.ev, XO.lit, setArgs, putD, Tr.get_set, Option.bind_some, Option.map_some, cond_true, cond_false, evArgs, maxI, maxFrom, minI, minFrom, aConv, aBin, aBinE, aEq, eqScal, aUn, aInt, evRes, fin, oneOf, if_true, if_false, callee, evF_eq, withX_some, withX_none, addX, X0, sN0, sN1, sN2, sN3, sN4, reduceCtorEq, Nat.reduceEqDiff, and_self, decide_true, decide_false, beq_true, beq_false, Bool.not_true, Bool.not_false, List.getElem?_cons_zero, List.getElem?_cons_succ, beq_self_eq_true, gt_iff_lt, ble_dec, beq_dec, List.head?_cons, AV.undef, eq_self, ne_eq, not_true_eq_false, not_false_eq_true, Int.reduceLT, Int.reduceLE, Int.reduceToNat, Int.reduceEq, Int.reduceNeg, Nat.reduceAdd, Nat.reduceLT, Nat.reduceLeDiff, Nat.reduceMul, Nat.reduceSub, c0, ht, hr, hq, hmx, hne, w1, w2, w3, w5, w6, c1, c3, c4]
          unfold ext
          rw [if_neg c0]
          dsimp only
          rw [hr]
          congr 3
          split <;> split <;> omega
        · simp -implicitDefEqProofs -dsimp (maxSteps := 10000000) only [af33, evC, evOps, evOper, wanted, evAny, AOp.calls, evOp, XO.ev, XO.lit, setArgs, putD, Tr.get_set, Option.bind_some, Option.map_some, cond_true, cond_false, evArgs, maxI, maxFrom, minI, minFrom, aConv, aBin, aBinE, aEq, eqScal, aUn, aInt, evRes, fin, oneOf, if_true, if_false, callee, evF_eq, withX_some, withX_none, addX, X0, sN0, sN1, sN2, sN3, sN4, reduceCtorEq, Nat.reduceEqDiff, and_self, decide_true, decide_false, beq_true, beq_false, Bool.not_true, Bool.not_false, List.getElem?_cons_zero, List.getElem?_cons_succ, beq_self_eq_true, gt_iff_lt, ble_dec, beq_dec, List.head?_cons, AV.undef, eq_self, ne_eq, not_true_eq_false, not_false_eq_true, Int.reduceLT, Int.reduceLE, Int.reduceToNat, Int.reduceEq, Int.reduceNeg, Nat.reduceAdd, Nat.reduceLT, Nat.reduceLeDiff, Nat.reduceMul, Nat.reduceSub, c0, ht, hr, hq, hmx, hne, w1, w2, w3, w5, c1, c3, c4]
          unfold ext
          rw [if_neg c0]
          dsimp only
          rw [hr]
          congr 3
          split <;> split <;> omega
      · simp -implicitDefEqProofs -dsimp (maxSteps := 10000000) only [af33, evC, evOps, evOper, wanted, evAny, AOp.calls, evOp, XO.ev, XO.lit, setArgs, putD, Tr.get_set, Option.bind_some, Option.map_some, cond_true, cond_false, evArgs, maxI, maxFrom, minI, minFrom, aConv, aBin, aBinE, aEq, eqScal, aUn, aInt, evRes, fin, oneOf, if_true, if_false, callee, evF_eq, withX_some, withX_none, addX, X0, sN0, sN1, sN2, sN3, sN4, reduceCtorEq, Nat.reduceEqDiff, and_self, decide_true, decide_false, beq_true, beq_false, Bool.not_true, Bool.not_false, List.getElem?_cons_zero, List.getElem?_cons_succ, beq_self_eq_true, gt_iff_lt, ble_dec, beq_dec, List.head?_cons, AV.undef, eq_self, ne_eq, not_true_eq_false, not_false_eq_true, Int.reduceLT, Int.reduceLE, Int.reduceToNat, Int.reduceEq, Int.reduceNeg, Nat.reduceAdd, Nat.reduceLT, Nat.reduceLeDiff, Nat.reduceMul, Nat.reduceSub, c0, ht, hr, hq, hmx, hne, w1, w2, w3, w5, c1, c3]
        unfold ext
        rw [if_neg c0]
        dsimp only
        rw [hr]
        congr 3
        split <;> split <;> omega

theorem ev32 {a n : Int} (ha : I64 a) (h0 : 0 ≤ n) (h1 : n < 4294967296) : evF X0 AP 4 32 [.int .i64 a, .int .u32 n] S0 = some (.int .i64 (ext 4294967296 a n), S0) := by
  rw [evF_body (af := af32) rfl rfl rfl]
  have w : IntKind.i64.wrap n = n := w64_id (by omega) (by omega)
  simp -implicitDefEqProofs -dsimp (maxSteps := 10000000) only [af32, evC, evOps, evOper, wanted, evAny, AOp.calls, evOp, XO.ev, XO.lit, setArgs, putD, Tr.get_set, Option.bind_some, Option.map_some, cond_true, cond_false, evArgs, maxI, maxFrom, minI, minFrom, aConv, aBin, aBinE, aEq, eqScal, aUn, aInt, evRes, fin, oneOf, if_true, if_false, callee, withX_some, withX_none, addX, X0, sN0, sN1, sN2, sN3, sN4, reduceCtorEq, Nat.reduceEqDiff, and_self, decide_true, decide_false, beq_true, beq_false, Bool.not_true, Bool.not_false, List.getElem?_cons_zero, List.getElem?_cons_succ, beq_self_eq_true, gt_iff_lt, ble_dec, beq_dec, List.head?_cons, AV.undef, eq_self, ne_eq, not_true_eq_false, not_false_eq_true, Int.reduceLT, Int.reduceLE, Int.reduceToNat, Int.reduceEq, Int.reduceNeg, Nat.reduceAdd, Nat.reduceLT, Nat.reduceLeDiff, Nat.reduceMul, Nat.reduceSub, w, ev33 ha h0 h1]
def M63 : Int := 9223372036854775807
theorem ev29 {a : Int} (ha : I64 a) : evF X0 AP 3 29 [.int .i64 a] S0 = some (.int .u64 (up a), S0) := by
  rw [evF_body (af := af29) rfl rfl rfl]
  simp -implicitDefEqProofs only [af29, evC, evOps, evOper, wanted, evAny, AOp.calls, evOp, XO.ev, XO.lit, setArgs, putD, Tr.get_set, Option.bind_some, Option.map_some, cond_true, cond_false, evArgs, maxI, maxFrom, minI, minFrom, aConv, aBin, aBinE, aEq, eqScal, aUn, aInt, evRes, fin, oneOf, if_true, if_false, callee, evF_eq, withX_some, withX_none, addX, X0, sN0, sN1, sN2, sN3, sN4, reduceCtorEq, Nat.reduceEqDiff, and_self, decide_true, decide_false, beq_true, beq_false, Bool.not_true, Bool.not_false, List.getElem?_cons_zero, List.getElem?_cons_succ, beq_self_eq_true, gt_iff_lt, ble_dec, beq_dec, List.head?_cons, AV.undef, eq_self, ne_eq, not_true_eq_false, not_false_eq_true, Int.reduceLT, Int.reduceLE, Int.reduceToNat, Int.reduceEq, Int.reduceNeg, Nat.reduceAdd, Nat.reduceLT, Nat.reduceLeDiff, Nat.reduceMul, Nat.reduceSub, up_l]
  rw [u64_id (up_nn a) (by have := up_le ha; omega)]
def X1 := addX X0 29 (sN1 .i64 fun a => .int .u64 (up a))
theorem ok1 : XOk Try.prog X1 := addX_N1 mixed (X0_ok _) apOk (entry_of apOk (af := af29) rfl) (fun _ => rfl) fun a wa => ⟨3, S0, ev29 (wf_i64 wa)⟩
def sat (a b : Int) : Int := mn (up a + up b) M63
theorem ev18 {a b : Int} (ha : I64 a) (hb : I64 b) : evF X1 AP 3 18 [.int .i64 a, .int .i64 b] S0 = some (.int .i64 (sat a b), S0) := by
  have a0 := up_nn a
  have a1 := up_le ha
  have b0 := up_nn b
  have b1 := up_le hb
  rw [evF_body (af := af18) rfl rfl rfl]
  simp -implicitDefEqProofs only [af18, evC, evOps, evOper, wanted, evAny, AOp.calls, evOp, XO.ev, XO.lit, setArgs, putD, Tr.get_set, Option.bind_some, Option.map_some, cond_true, cond_false, evArgs, maxI, maxFrom, minI, minFrom, aConv, aBin, aBinE, aEq, eqScal, aUn, aInt, evRes, fin, oneOf, if_true, if_false, callee, evF_eq, withX_some, withX_none, addX, X0, sN0, sN1, sN2, sN3, sN4, reduceCtorEq, Nat.reduceEqDiff, and_self, decide_true, decide_false, beq_true, beq_false, Bool.not_true, Bool.not_false, List.getElem?_cons_zero, List.getElem?_cons_succ, beq_self_eq_true, gt_iff_lt, ble_dec, beq_dec, List.head?_cons, AV.undef, eq_self, ne_eq, not_true_eq_false, not_false_eq_true, Int.reduceLT, Int.reduceLE, Int.reduceToNat, Int.reduceEq, Int.reduceNeg, Nat.reduceAdd, Nat.reduceLT, Nat.reduceLeDiff, Nat.reduceMul, Nat.reduceSub, X1]
  rw [u64_id (by omega) (by omega), mn_l]
  rw [w64_id (by unfold mn; split <;> omega) (by unfold mn; split <;> omega)]
  rfl
theorem sat_ok {a b : Int} (h0 : 0 ≤ a) (h1 : 0 ≤ b) (h2 : a + b ≤ 9223372036854775807) : sat a b = a + b := by
  unfold sat
  rw [up_pos h0, up_pos h1]
  unfold mn M63
  split <;> omega
def X2 := addX X1 18 (sN2 .i64 .i64 fun a b => .int .i64 (sat a b))
theorem ok2 : XOk Try.prog X2 := addX_N2 mixed ok1 apOk (entry_of apOk (af := af18) rfl) (fun _ _ => rfl) fun a b wa wb => ⟨3, S0, ev18 (wf_i64 wa) (wf_i64 wb)⟩
def nxt (n : Int) : Int := if n < 0 then 0 else sat n 1
theorem ev31 {a : Int} (ha : I64 a) : evF X2 AP 4 31 [.int .i64 a] S0 = some (.int .i64 (nxt a), S0) := by
  rw [evF_body (af := af31) rfl rfl rfl]
  by_cases c : a < 0
  · simp -implicitDefEqProofs only [af31, evC, evOps, evOper, wanted, evAny, AOp.calls, evOp, XO.ev, XO.lit, setArgs, putD, Tr.get_set, Option.bind_some, Option.map_some, cond_true, cond_false, evArgs, maxI, maxFrom, minI, minFrom, aConv, aBin, aBinE, aEq, eqScal, aUn, aInt, evRes, fin, oneOf, if_true, if_false, callee, evF_eq, withX_some, withX_none, addX, X0, sN0, sN1, sN2, sN3, sN4, reduceCtorEq, Nat.reduceEqDiff, and_self, decide_true, decide_false, beq_true, beq_false, Bool.not_true, Bool.not_false, List.getElem?_cons_zero, List.getElem?_cons_succ, beq_self_eq_true, gt_iff_lt, ble_dec, beq_dec, List.head?_cons, AV.undef, eq_self, ne_eq, not_true_eq_false, not_false_eq_true, Int.reduceLT, Int.reduceLE, Int.reduceToNat, Int.reduceEq, Int.reduceNeg, Nat.reduceAdd, Nat.reduceLT, Nat.reduceLeDiff, Nat.reduceMul, Nat.reduceSub, X2, X1, c, nxt]
  · simp -implicitDefEqProofs only [af31, evC, evOps, evOper, wanted, evAny, AOp.calls, evOp, XO.ev, XO.lit, setArgs, putD, Tr.get_set, Option.bind_some, Option.map_some, cond_true, cond_false, evArgs, maxI, maxFrom, minI, minFrom, aConv, aBin, aBinE, aEq, eqScal, aUn, aInt, evRes, fin, oneOf, if_true, if_false, callee, evF_eq, withX_some, withX_none, addX, X0, sN0, sN1, sN2, sN3, sN4, reduceCtorEq, Nat.reduceEqDiff, and_self, decide_true, decide_false, beq_true, beq_false, Bool.not_true, Bool.not_false, List.getElem?_cons_zero, List.getElem?_cons_succ, beq_self_eq_true, gt_iff_lt, ble_dec, beq_dec, List.head?_cons, AV.undef, eq_self, ne_eq, not_true_eq_false, not_false_eq_true, Int.reduceLT, Int.reduceLE, Int.reduceToNat, Int.reduceEq, Int.reduceNeg, Nat.reduceAdd, Nat.reduceLT, Nat.reduceLeDiff, Nat.reduceMul, Nat.reduceSub, X2, X1, c, nxt]
def X3 := addX X2 31 (sN1 .i64 fun a => .int .i64 (nxt a))
theorem ok3 : XOk Try.prog X3 := addX_N1 mixed ok2 apOk (entry_of apOk (af := af31) rfl) (fun _ => rfl) fun a wa => ⟨4, S0, ev31 (wf_i64 wa)⟩
def stp (a n : Int) : Int := ext 4294967296 a n
def X4 := addX X3 19 (sN2 .i64 .u32 fun a n => .int .i64 (stp a n))
theorem ok4 : XOk Try.prog X4 := addX_any ok3 (X0_ok _) (addX_N2 mixed (X0_ok _) apOk (entry_of apOk (af := af19) rfl) (fun _ _ => rfl) fun a n wa wn => ⟨4, S0, ev19 (wf_i64 wa) (wf_u32 wn).1 (by have := (wf_u32 wn).2; omega)⟩)
def X5 := addX X4 32 (sN2 .i64 .u32 fun a n => .int .i64 (stp a n))
theorem ok5 : XOk Try.prog X5 := addX_any ok4 (X0_ok _) (addX_N2 mixed (X0_ok _) apOk (entry_of apOk (af := af32) rfl) (fun _ _ => rfl) fun a n wa wn => ⟨4, S0, ev32 (wf_i64 wa) (wf_u32 wn).1 (by have := (wf_u32 wn).2; omega)⟩)
theorem ev14 : ∃ S', evF X0 AP 40 14 [] S0 = some (.bool true, S') := by
  have h : (evF X0 AP 40 14 [] S0).map Prod.fst = some (.bool true) := by kernel_rfl
  rw [Option.map_eq_some_iff] at h
  obtain ⟨⟨v, S'⟩, h1, h2⟩ := h
  exact ⟨S', by rw [h1]; cases h2; rfl⟩
def Y := addX X5 14 (sN0 (.bool true))
theorem okY : XOk Try.prog Y := addX_any ok5 (X0_ok _) (addX_N0 mixed (X0_ok _) apOk (entry_of apOk (af := af14) rfl) rfl ⟨40, ev14⟩)
section
variable (k : Nat) (S : St) (a b : Int)
theorem y14 : evF Y AP (k + 1) 14 [] S = some (.bool true, S) := rfl
theorem y18 : evF Y AP (k + 1) 18 [.int .i64 a, .int .i64 b] S = some (.int .i64 (sat a b), S) := rfl
theorem y31 : evF Y AP (k + 1) 31 [.int .i64 a] S = some (.int .i64 (nxt a), S) := rfl
theorem y19 : evF Y AP (k + 1) 19 [.int .i64 a, .int .u32 b] S = some (.int .i64 (stp a b), S) := rfl
theorem y32 : evF Y AP (k + 1) 32 [.int .i64 a, .int .u32 b] S = some (.int .i64 (stp a b), S) := rfl
end
end Go.Proofs.YtdppaegnmdiheaaA
