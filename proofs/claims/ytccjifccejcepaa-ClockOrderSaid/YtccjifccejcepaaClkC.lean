/- Chapter 9: the laws without the document's answer. -/
import Derived.Test.YtccjifccejcepaaClkB
set_option linter.unusedVariables false
set_option linter.unusedSimpArgs false
set_option maxRecDepth 10000
namespace Go.Proofs.YtccjifccejcepaaA
open Go.RowKit
attribute [local congr] bind_congr1 map_congr1 cond_congr1 withX_congr

theorem mask40 (x : Int) : Go.bits .and .i64 x 1099511627775 = x % 1099511627776 := and_i64 40 (by decide) x
theorem mask20 (x : Int) : Go.bits .and .i64 x 1048575 = x % 1048576 := and_i64 20 (by decide) x
theorem mask31 (x : Int) : Go.bits .and .i64 x 2147483647 = x % 2147483648 := and_i64 31 (by decide) x
theorem prod31 {x y : Int} (hx0 : 0 ≤ x) (hx : x ≤ 2147483647) (hy0 : 0 ≤ y) (hy : y ≤ 2147483647) : 0 ≤ x * y ∧ x * y ≤ 4611686014132420609 :=
  ⟨Int.mul_nonneg hx0 hy0, by have := Int.mul_le_mul hx hy hy0 (by decide); omega⟩
set_option maxHeartbeats 4000000 in
theorem ev5 {a b c d : Int} (ha : I64 a) (hb : I64 b) : evF X13 AP 3 5 [.int .i64 a, .int .i64 b, .int .i64 c, .int .i64 d] S0 = some (.bool true, S0) := by
  have hx0 : 0 ≤ a % 1099511627776 := by omega
  have hx1 : a % 1099511627776 < 1099511627776 := by omega
  have hy0 : 1 ≤ 1 + b % 1048576 := by omega
  have hy1 : 1 + b % 1048576 ≤ 1048576 := by omega
  have ux : up (a % 1099511627776) = a % 1099511627776 := up_pos hx0
  have uy : up (1 + b % 1048576) = 1 + b % 1048576 := up_pos (by omega)
  have uy1 : up (1 + b % 1048576 + 1) = 1 + b % 1048576 + 1 := up_pos (by omega)
  have wy : IntKind.i64.wrap (1 + b % 1048576) = 1 + b % 1048576 := w64_id (by omega) (by omega)
  have wy1 : IntKind.i64.wrap (1 + b % 1048576 + 1) = 1 + b % 1048576 + 1 := w64_id (by omega) (by omega)
  have hu := upq_bd hx0 (show 0 ≤ 1 + b % 1048576 by omega)
  obtain ⟨q0, q1, q2⟩ := hu
  obtain ⟨q2, q3⟩ := q2 (by omega)
  have wq : IntKind.i64.wrap (upq (a % 1099511627776) (1 + b % 1048576) * (1 + b % 1048576)) = upq (a % 1099511627776) (1 + b % 1048576) * (1 + b % 1048576) := w64_id (by omega) (by omega)
  have ws : IntKind.i64.wrap (a % 1099511627776 + (1 + b % 1048576)) = a % 1099511627776 + (1 + b % 1048576) := w64_id (by omega) (by omega)
  have s1 : (if (if a < b then b else a) < 0 then 0 else if a < b then b else a) ≤ mn (up a + up b) M63 := by
    have := ha.2
    have := hb.2
    unfold mn up M63
    repeat' split
    all_goals omega
  have e2 : (a % 1099511627776 * (1 + b % 1048576) < a % 1099511627776 * (1 + b % 1048576 + 1)) = (0 < a % 1099511627776) := by
    rw [Int.mul_add (a % 1099511627776) (1 + b % 1048576) 1, eq_iff_iff]; omega
  have hadd : up b + up a = up a + up b := Int.add_comm _ _
  have hmul : up b * up a = up a * up b := Int.mul_comm _ _
  rw [evF_body (af := af5) rfl rfl rfl]
  by_cases h : up a * up b < up c * up d
  · have h' : ¬ up c * up d < up a * up b := by omega
    simp -implicitDefEqProofs (maxSteps := 10000000) only [af5, evC, evOps, evOper, wanted, evAny, AOp.calls, evOp, XO.ev, XO.lit, setArgs, putD, Tr.get_set, Option.bind_some, Option.map_some, cond_true, cond_false, evArgs, maxI, maxFrom, minI, minFrom, aConv, aBin, aBinE, aEq, eqScal, aUn, aInt, evRes, fin, oneOf, if_true, if_false, callee, evF_eq, withX_some, withX_none, addX, X0, sN0, sN1, sN2, sN3, sN4, reduceCtorEq, Nat.reduceEqDiff, and_self, decide_true, decide_false, beq_true, beq_false, Bool.not_true, Bool.not_false, List.getElem?_cons_zero, List.getElem?_cons_succ, beq_self_eq_true, gt_iff_lt, AV.undef, eq_self, ne_eq, not_true_eq_false, not_false_eq_true, Int.reduceLT, Int.reduceLE, Int.reduceToNat, Int.reduceEq, Int.reduceNeg, Nat.reduceAdd, Nat.reduceLT, Nat.reduceLeDiff, Nat.reduceMul, Nat.reduceSub, X13, X12, X11, X10, X9, X8, X7, X6, X5, X4, X3, X2, X1, nSum, nMul, nOver, nLess, mask40, mask20, ux, uy, uy1, wy, wy1, wq, ws, s1, e2, hadd, hmul, q2, q3, h, h', Int.lt_irrefl]
  · simp -implicitDefEqProofs (maxSteps := 10000000) only [af5, evC, evOps, evOper, wanted, evAny, AOp.calls, evOp, XO.ev, XO.lit, setArgs, putD, Tr.get_set, Option.bind_some, Option.map_some, cond_true, cond_false, evArgs, maxI, maxFrom, minI, minFrom, aConv, aBin, aBinE, aEq, eqScal, aUn, aInt, evRes, fin, oneOf, if_true, if_false, callee, evF_eq, withX_some, withX_none, addX, X0, sN0, sN1, sN2, sN3, sN4, reduceCtorEq, Nat.reduceEqDiff, and_self, decide_true, decide_false, beq_true, beq_false, Bool.not_true, Bool.not_false, List.getElem?_cons_zero, List.getElem?_cons_succ, beq_self_eq_true, gt_iff_lt, AV.undef, eq_self, ne_eq, not_true_eq_false, not_false_eq_true, Int.reduceLT, Int.reduceLE, Int.reduceToNat, Int.reduceEq, Int.reduceNeg, Nat.reduceAdd, Nat.reduceLT, Nat.reduceLeDiff, Nat.reduceMul, Nat.reduceSub, X13, X12, X11, X10, X9, X8, X7, X6, X5, X4, X3, X2, X1, nSum, nMul, nOver, nLess, mask40, mask20, ux, uy, uy1, wy, wy1, wq, ws, s1, e2, hadd, hmul, q2, q3, h, Int.lt_irrefl]
theorem shl32 : ((2 : Int) ^ min 32 (IntKind.bits .i64)) = 4294967296 := by decide
theorem shl31 : ((2 : Int) ^ min 31 (IntKind.bits .i64)) = 2147483648 := by decide
set_option maxHeartbeats 4000000 in
theorem ev6 (a b c d : Int) : evF X13 AP 3 6 [.int .i64 a, .int .i64 b, .int .i64 c, .int .i64 d] S0 = some (.bool true, S0) := by
  rw [evF_body (af := af6) rfl rfl rfl]
  have hw0 : 0 ≤ a % 2147483648 := by omega
  have hw1 : a % 2147483648 ≤ 2147483647 := by omega
  have hx0 : 0 ≤ b % 2147483648 := by omega
  have hx1 : b % 2147483648 ≤ 2147483647 := by omega
  have hy0 : 0 ≤ c % 2147483648 := by omega
  have hy1 : c % 2147483648 ≤ 2147483647 := by omega
  have hz0 : 0 ≤ d % 2147483648 := by omega
  have hz1 : d % 2147483648 ≤ 2147483647 := by omega
  have p := prod31 hw0 hw1 hx0 hx1
  have q := prod31 hy0 hy1 hz0 hz1
  have rest : ∀ w x y z : Int, 0 ≤ w → w ≤ 2147483647 → 0 ≤ x → x ≤ 2147483647 → 0 ≤ y → y ≤ 2147483647 → 0 ≤ z → z ≤ 2147483647 → 0 ≤ w * x ∧ w * x ≤ 4611686014132420609 → 0 ≤ y * z ∧ y * z ≤ 4611686014132420609 →
      up w = w ∧ up x = x ∧ up y = y ∧ up z = z ∧ up (w * x) = w * x ∧ IntKind.i64.wrap (w * x) = w * x ∧ IntKind.i64.wrap (y * z) = y * z ∧ IntKind.i64.wrap (w * x + y) = w * x + y ∧
      IntKind.i64.wrap (w * 4294967296) = w * 4294967296 ∧ IntKind.i64.wrap (y * 4294967296) = y * 4294967296 ∧ IntKind.i64.wrap (w * 2147483648) = w * 2147483648 ∧ IntKind.i64.wrap (x * 2147483648) = x * 2147483648 ∧
      IntKind.i64.wrap (y * 2147483648) = y * 2147483648 ∧ IntKind.i64.wrap (z * 2147483648) = z * 2147483648 ∧ up (w * 4294967296) = w * 4294967296 ∧ up (y * 4294967296) = y * 4294967296 ∧
      up (w * 2147483648) = w * 2147483648 ∧ up (x * 2147483648) = x * 2147483648 ∧ up (y * 2147483648) = y * 2147483648 ∧ up (z * 2147483648) = z * 2147483648 ∧
      mn (w * x) M63 = w * x ∧ mn (w * x + y) M63 = w * x + y ∧
      (w * 4294967296 * x < y * 4294967296 * z) = (w * x < y * z) ∧ (w * 2147483648 * (x * 2147483648) < y * 2147483648 * (z * 2147483648)) = (w * x < y * z) := by
    intro w x y z a0 a1 b0 b1 c0 c1 d0 d1 p q
    have e1 : w * 4294967296 * x = w * x * 4294967296 := by rw [Int.mul_right_comm]
    have e2 : y * 4294967296 * z = y * z * 4294967296 := by rw [Int.mul_right_comm]
    have e3 : w * 2147483648 * (x * 2147483648) = w * x * 4611686018427387904 := by rw [Int.mul_right_comm, ← Int.mul_assoc, Int.mul_assoc]; rfl
    have e4 : y * 2147483648 * (z * 2147483648) = y * z * 4611686018427387904 := by rw [Int.mul_right_comm, ← Int.mul_assoc, Int.mul_assoc]; rfl
    rw [e1, e2, e3, e4]
    refine ⟨up_pos a0, up_pos b0, up_pos c0, up_pos d0, up_pos p.1, w64_id (by omega) (by omega), w64_id (by omega) (by omega), w64_id (by omega) (by omega), w64_id (by omega) (by omega), w64_id (by omega) (by omega), w64_id (by omega) (by omega), w64_id (by omega) (by omega), w64_id (by omega) (by omega), w64_id (by omega) (by omega),
      up_pos (by omega), up_pos (by omega), up_pos (by omega), up_pos (by omega), up_pos (by omega), up_pos (by omega), ?_, ?_, ?_, ?_⟩
    · unfold mn M63; split <;> omega
    · unfold mn M63; split <;> omega
    · rw [eq_iff_iff]; omega
    · rw [eq_iff_iff]; omega
  obtain ⟨r1, r2, r3, r4, r5, r6, r7, r8, r9, r10, r11, r12, r13, r14, r15, r16, r17, r18, r19, r20, r21, r22, r23, r24⟩ := rest _ _ _ _ hw0 hw1 hx0 hx1 hy0 hy1 hz0 hz1 p q
  simp -implicitDefEqProofs (maxSteps := 10000000) only [af6, evC, evOps, evOper, wanted, evAny, AOp.calls, evOp, XO.ev, XO.lit, setArgs, putD, Tr.get_set, Option.bind_some, Option.map_some, cond_true, cond_false, evArgs, maxI, maxFrom, minI, minFrom, aConv, aBin, aBinE, aEq, eqScal, aUn, aInt, evRes, fin, oneOf, if_true, if_false, callee, evF_eq, withX_some, withX_none, addX, X0, sN0, sN1, sN2, sN3, sN4, reduceCtorEq, Nat.reduceEqDiff, and_self, decide_true, decide_false, beq_true, beq_false, Bool.not_true, Bool.not_false, List.getElem?_cons_zero, List.getElem?_cons_succ, beq_self_eq_true, gt_iff_lt, AV.undef, eq_self, ne_eq, not_true_eq_false, not_false_eq_true, Int.reduceLT, Int.reduceLE, Int.reduceToNat, Int.reduceEq, Int.reduceNeg, Nat.reduceAdd, Nat.reduceLT, Nat.reduceLeDiff, Nat.reduceMul, Nat.reduceSub, X13, X12, X11, X10, X9, X8, X7, X6, X5, X4, X3, X2, X1, nSum, nMul, nOver, nLess, mask31, shl31, shl32, r1, r2, r3, r4, r5, r6, r7, r8, r9, r10, r11, r12, r13, r14, r15, r16, r17, r18, r19, r20, r21, r22, r23, r24]
end Go.Proofs.YtccjifccejcepaaA
