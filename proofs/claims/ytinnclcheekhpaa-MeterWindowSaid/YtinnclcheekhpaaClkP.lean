/- Chapter 9: what each function of the clock's numbers, and each of the reference's, comes to. -/
import Derived.Test.YtinnclcheekhpaaAf
import Derived.Test.YtinnclcheekhpaaAeNum
import Derived.Test.YtinnclcheekhpaaAeS3
set_option linter.unusedVariables false
set_option linter.unusedSimpArgs false
set_option maxRecDepth 10000
namespace Go.Proofs.YtinnclcheekhpaaA
open Go.RowKit
attribute [local congr] bind_congr1 map_congr1 cond_congr1 withX_congr

/-! ### Plain numbers -/
theorem and_u64_32 (x : Int) : Go.bits .and .u64 x 4294967295 = x % 4294967296 := and_u64 32 (by decide) x
theorem prod_bd {x y : Int} (hx0 : 0 ≤ x) (hx : x ≤ 4294967295) (hy0 : 0 ≤ y) (hy : y ≤ 4294967295) : 0 ≤ x * y ∧ x * y ≤ 18446744065119617025 :=
  ⟨Int.mul_nonneg hx0 hy0, by have := Int.mul_le_mul hx hy hy0 (by decide); omega⟩
theorem halves (a b : Int) : a * b = (a / 4294967296) * (b / 4294967296) * 18446744073709551616 + (a / 4294967296) * (b % 4294967296) * 4294967296 + (a % 4294967296) * (b / 4294967296) * 4294967296 + (a % 4294967296) * (b % 4294967296) := by
  have ha : a = (a / 4294967296) * 4294967296 + a % 4294967296 := by omega
  have hb : b = (b / 4294967296) * 4294967296 + b % 4294967296 := by omega
  generalize a / 4294967296 = x at *
  generalize a % 4294967296 = y at *
  generalize b / 4294967296 = z at *
  generalize b % 4294967296 = u at *
  subst ha hb
  grind
def upq (x y : Int) : Int := if y = 0 then 0 else if x % y > 0 then x / y + 1 else x / y
theorem upq_bd {x y : Int} (h0 : 0 ≤ x) (h1 : 0 ≤ y) : 0 ≤ upq x y ∧ upq x y ≤ x ∧ (0 < y → x ≤ upq x y * y ∧ upq x y * y < x + y) := by
  unfold upq
  by_cases hy : y = 0
  · rw [if_pos hy]; exact ⟨by omega, by omega, by omega⟩
  · rw [if_neg hy]
    have hq := Int.mul_ediv_add_emod x y
    have hr0 := Int.emod_nonneg x hy
    have hr1 := Int.emod_lt_of_pos x (show 0 < y by omega)
    have hq0 := Int.ediv_nonneg h0 h1
    generalize x % y = r at *
    generalize x / y = q at *
    have hle : q ≤ y * q := by
      have := Int.mul_le_mul_of_nonneg_right (show 1 ≤ y by omega) hq0
      omega
    rw [Int.mul_comm] at hq hle
    split
    · rename_i hr
      have h2 : y ≠ 1 := by omega
      have h3 : 2 * q ≤ q * y := by
        have := Int.mul_le_mul_of_nonneg_right (show 2 ≤ y by omega) hq0
        rw [Int.mul_comm y q] at this
        omega
      rw [Int.add_mul]
      exact ⟨by omega, by omega, by omega⟩
    · exact ⟨by omega, by omega, by omega⟩

/-! ### The functions -/
theorem two_pow_32 : ((2 : Int) ^ min 32 (IntKind.bits .u64)) = 4294967296 := by decide
theorem ev22 {a : Int} (ha : I64 a) : evF X0 AP 3 22 [.int .i64 a] S0 = some (.int .u64 (up a), S0) := by
  rw [evF_body (af := af22) rfl rfl rfl]
  simp -implicitDefEqProofs only [af22, evC, evOps, evOper, wanted, evAny, AOp.calls, evOp, XO.ev, XO.lit, setArgs, putD, Tr.get_set, Option.bind_some, Option.map_some, cond_true, cond_false, evArgs, maxI, maxFrom, minI, minFrom, aConv, aBin, aBinE, aEq, eqScal, aUn, aInt, evRes, fin, oneOf, if_true, if_false, callee, evF_eq, withX_some, withX_none, addX, X0, sN0, sN1, sN2, sN3, sN4, reduceCtorEq, Nat.reduceEqDiff, and_self, decide_true, decide_false, beq_true, beq_false, Bool.not_true, Bool.not_false, List.getElem?_cons_zero, List.getElem?_cons_succ, beq_self_eq_true, gt_iff_lt, ble_dec, beq_dec, List.head?_cons, AV.undef, eq_self, ne_eq, not_true_eq_false, not_false_eq_true, Int.reduceLT, Int.reduceLE, Int.reduceToNat, Int.reduceEq, Int.reduceNeg, Nat.reduceAdd, Nat.reduceLT, Nat.reduceLeDiff, Nat.reduceMul, Nat.reduceSub, up_l]
  rw [u64_id (up_nn a) (by have := up_le ha; omega)]
theorem lt64 {a : Int} (h : (Lit.int .u64 a).wf = true) : 0 ≤ a ∧ a < 18446744073709551616 := by have := wf_u64 h; omega
def wd (a b : Int) : AV := .tuple [.int .u64 (a * b / 18446744073709551616), .int .u64 (a * b % 18446744073709551616)]
def M63 : Int := 9223372036854775807
def X1 := addX X0 22 (sN1 .i64 fun a => .int .u64 (up a))
theorem ok1 : XOk Try.prog X1 := addX_N1 mixed (X0_ok _) apOk (entry_of apOk (af := af22) rfl) (fun _ => rfl) fun a wa => ⟨3, S0, ev22 (wf_i64 wa)⟩
theorem ev23 {a b : Int} (ha : 0 ≤ a) (ha' : a < 18446744073709551616) (hb : 0 ≤ b) (hb' : b < 18446744073709551616) :
    evF X1 AP 3 23 [.int .u64 a, .int .u64 b] S0 = some (.tuple [.int .u64 (a * b / 18446744073709551616), .int .u64 (a * b % 18446744073709551616)], S0) := by
  have h := halves a b
  have p1 := prod_bd (x := a / 4294967296) (y := b / 4294967296) (by omega) (by omega) (by omega) (by omega)
  have p2 := prod_bd (x := a / 4294967296) (y := b % 4294967296) (by omega) (by omega) (by omega) (by omega)
  have p3 := prod_bd (x := a % 4294967296) (y := b / 4294967296) (by omega) (by omega) (by omega) (by omega)
  have p4 := prod_bd (x := a % 4294967296) (y := b % 4294967296) (by omega) (by omega) (by omega) (by omega)
  rw [evF_body (af := af23) rfl rfl rfl]
  simp -implicitDefEqProofs only [af23, evC, evOps, evOper, wanted, evAny, AOp.calls, evOp, XO.ev, XO.lit, setArgs, putD, Tr.get_set, Option.bind_some, Option.map_some, cond_true, cond_false, evArgs, maxI, maxFrom, minI, minFrom, aConv, aBin, aBinE, aEq, eqScal, aUn, aInt, evRes, fin, oneOf, if_true, if_false, callee, evF_eq, withX_some, withX_none, addX, X0, sN0, sN1, sN2, sN3, sN4, reduceCtorEq, Nat.reduceEqDiff, and_self, decide_true, decide_false, beq_true, beq_false, Bool.not_true, Bool.not_false, List.getElem?_cons_zero, List.getElem?_cons_succ, beq_self_eq_true, gt_iff_lt, ble_dec, beq_dec, List.head?_cons, AV.undef, eq_self, ne_eq, not_true_eq_false, not_false_eq_true, Int.reduceLT, Int.reduceLE, Int.reduceToNat, Int.reduceEq, Int.reduceNeg, Nat.reduceAdd, Nat.reduceLT, Nat.reduceLeDiff, Nat.reduceMul, Nat.reduceSub, two_pow_32, and_u64_32, wrap_u64]
  rw [h]
  generalize (a / 4294967296) * (b / 4294967296) = p at *
  generalize (a / 4294967296) * (b % 4294967296) = q at *
  generalize (a % 4294967296) * (b / 4294967296) = r at *
  generalize (a % 4294967296) * (b % 4294967296) = s at *
  rw [Int.emod_eq_of_lt p1.1 (by omega), Int.emod_eq_of_lt p2.1 (by omega), Int.emod_eq_of_lt p3.1 (by omega), Int.emod_eq_of_lt p4.1 (by omega)]
  rw [Int.emod_eq_of_lt (a := q + s / 4294967296) (by omega) (by omega)]
  rw [Int.emod_eq_of_lt (a := (q + s / 4294967296) % 4294967296 + r) (by omega) (by omega)]
  congr 5
  omega
def X2 := addX X1 23 (sN2 .u64 .u64 wd)
theorem ok2 : XOk Try.prog X2 := addX_N2 mixed ok1 apOk (entry_of apOk (af := af23) rfl) (fun _ _ => rfl) fun a b wa wb => ⟨3, S0, ev23 (lt64 wa).1 (lt64 wa).2 (lt64 wb).1 (lt64 wb).2⟩
def X3 := X2
theorem ok3 : XOk Try.prog X3 := ok2
/-! Sums. -/
theorem ev16 {a b : Int} (ha : I64 a) (hb : I64 b) : evF X3 AP 3 16 [.int .i64 a, .int .i64 b] S0 = some (.int .i64 (mn (up a + up b) M63), S0) := by
  have a0 := up_nn a
  have a1 := up_le ha
  have b0 := up_nn b
  have b1 := up_le hb
  rw [evF_body (af := af16) rfl rfl rfl]
  simp -implicitDefEqProofs only [af16, evC, evOps, evOper, wanted, evAny, AOp.calls, evOp, XO.ev, XO.lit, setArgs, putD, Tr.get_set, Option.bind_some, Option.map_some, cond_true, cond_false, evArgs, maxI, maxFrom, minI, minFrom, aConv, aBin, aBinE, aEq, eqScal, aUn, aInt, evRes, fin, oneOf, if_true, if_false, callee, evF_eq, withX_some, withX_none, addX, X0, sN0, sN1, sN2, sN3, sN4, reduceCtorEq, Nat.reduceEqDiff, and_self, decide_true, decide_false, beq_true, beq_false, Bool.not_true, Bool.not_false, List.getElem?_cons_zero, List.getElem?_cons_succ, beq_self_eq_true, gt_iff_lt, ble_dec, beq_dec, List.head?_cons, AV.undef, eq_self, ne_eq, not_true_eq_false, not_false_eq_true, Int.reduceLT, Int.reduceLE, Int.reduceToNat, Int.reduceEq, Int.reduceNeg, Nat.reduceAdd, Nat.reduceLT, Nat.reduceLeDiff, Nat.reduceMul, Nat.reduceSub, X1, X2, X3]
  rw [u64_id (by omega) (by omega), mn_l]
  rw [w64_id (by unfold mn; split <;> omega) (by unfold mn; split <;> omega)]
  rfl
theorem ev20 {a b : Int} (ha : I64 a) (hb : I64 b) : evF X3 AP 3 20 [.int .i64 a, .int .i64 b] S0 = some (.int .i64 (mn (up a + up b) M63), S0) := by
  have a0 := up_nn a
  have a1 := up_le ha
  have b0 := up_nn b
  have b1 := up_le hb
  have e : IntKind.i64.wrap (9223372036854775807 - up b) = 9223372036854775807 - up b := w64_id (by omega) (by omega)
  rw [evF_body (af := af20) rfl rfl rfl]
  by_cases h : 9223372036854775807 - up b < up a
  · simp -implicitDefEqProofs only [af20, evC, evOps, evOper, wanted, evAny, AOp.calls, evOp, XO.ev, XO.lit, setArgs, putD, Tr.get_set, Option.bind_some, Option.map_some, cond_true, cond_false, evArgs, maxI, maxFrom, minI, minFrom, aConv, aBin, aBinE, aEq, eqScal, aUn, aInt, evRes, fin, oneOf, if_true, if_false, callee, evF_eq, withX_some, withX_none, addX, X0, sN0, sN1, sN2, sN3, sN4, reduceCtorEq, Nat.reduceEqDiff, and_self, decide_true, decide_false, beq_true, beq_false, Bool.not_true, Bool.not_false, List.getElem?_cons_zero, List.getElem?_cons_succ, beq_self_eq_true, gt_iff_lt, ble_dec, beq_dec, List.head?_cons, AV.undef, eq_self, ne_eq, not_true_eq_false, not_false_eq_true, Int.reduceLT, Int.reduceLE, Int.reduceToNat, Int.reduceEq, Int.reduceNeg, Nat.reduceAdd, Nat.reduceLT, Nat.reduceLeDiff, Nat.reduceMul, Nat.reduceSub, X1, X2, X3, up_r, e, h]
    unfold mn M63
    rw [if_pos (by omega)]
  · simp -implicitDefEqProofs only [af20, evC, evOps, evOper, wanted, evAny, AOp.calls, evOp, XO.ev, XO.lit, setArgs, putD, Tr.get_set, Option.bind_some, Option.map_some, cond_true, cond_false, evArgs, maxI, maxFrom, minI, minFrom, aConv, aBin, aBinE, aEq, eqScal, aUn, aInt, evRes, fin, oneOf, if_true, if_false, callee, evF_eq, withX_some, withX_none, addX, X0, sN0, sN1, sN2, sN3, sN4, reduceCtorEq, Nat.reduceEqDiff, and_self, decide_true, decide_false, beq_true, beq_false, Bool.not_true, Bool.not_false, List.getElem?_cons_zero, List.getElem?_cons_succ, beq_self_eq_true, gt_iff_lt, ble_dec, beq_dec, List.head?_cons, AV.undef, eq_self, ne_eq, not_true_eq_false, not_false_eq_true, Int.reduceLT, Int.reduceLE, Int.reduceToNat, Int.reduceEq, Int.reduceNeg, Nat.reduceAdd, Nat.reduceLT, Nat.reduceLeDiff, Nat.reduceMul, Nat.reduceSub, X1, X2, X3, up_r, e, h]
    unfold mn M63
    rw [if_neg (by omega), w64_id (by omega) (by omega)]
/-! Products. -/
theorem ev18 {a b : Int} (ha : I64 a) (hb : I64 b) : evF X3 AP 3 18 [.int .i64 a, .int .i64 b] S0 = some (.int .i64 (mn (up a * up b) M63), S0) := by
  have a0 := up_nn a
  have a1 := up_le ha
  have b0 := up_nn b
  have b1 := up_le hb
  have c0 := Int.mul_nonneg a0 b0
  rw [evF_body (af := af18) rfl rfl rfl]
  by_cases h : 0 < up a * up b / 18446744073709551616
  · simp -implicitDefEqProofs only [af18, evC, evOps, evOper, wanted, evAny, AOp.calls, evOp, XO.ev, XO.lit, setArgs, putD, Tr.get_set, Option.bind_some, Option.map_some, cond_true, cond_false, evArgs, maxI, maxFrom, minI, minFrom, aConv, aBin, aBinE, aEq, eqScal, aUn, aInt, evRes, fin, oneOf, if_true, if_false, callee, evF_eq, withX_some, withX_none, addX, X0, sN0, sN1, sN2, sN3, sN4, reduceCtorEq, Nat.reduceEqDiff, and_self, decide_true, decide_false, beq_true, beq_false, Bool.not_true, Bool.not_false, List.getElem?_cons_zero, List.getElem?_cons_succ, beq_self_eq_true, gt_iff_lt, ble_dec, beq_dec, List.head?_cons, AV.undef, eq_self, ne_eq, not_true_eq_false, not_false_eq_true, Int.reduceLT, Int.reduceLE, Int.reduceToNat, Int.reduceEq, Int.reduceNeg, Nat.reduceAdd, Nat.reduceLT, Nat.reduceLeDiff, Nat.reduceMul, Nat.reduceSub, X1, X2, X3, wd, h]
    generalize up a * up b = x at *
    unfold mn M63
    rw [if_pos (by omega)]
  · simp -implicitDefEqProofs only [af18, evC, evOps, evOper, wanted, evAny, AOp.calls, evOp, XO.ev, XO.lit, setArgs, putD, Tr.get_set, Option.bind_some, Option.map_some, cond_true, cond_false, evArgs, maxI, maxFrom, minI, minFrom, aConv, aBin, aBinE, aEq, eqScal, aUn, aInt, evRes, fin, oneOf, if_true, if_false, callee, evF_eq, withX_some, withX_none, addX, X0, sN0, sN1, sN2, sN3, sN4, reduceCtorEq, Nat.reduceEqDiff, and_self, decide_true, decide_false, beq_true, beq_false, Bool.not_true, Bool.not_false, List.getElem?_cons_zero, List.getElem?_cons_succ, beq_self_eq_true, gt_iff_lt, ble_dec, beq_dec, List.head?_cons, AV.undef, eq_self, ne_eq, not_true_eq_false, not_false_eq_true, Int.reduceLT, Int.reduceLE, Int.reduceToNat, Int.reduceEq, Int.reduceNeg, Nat.reduceAdd, Nat.reduceLT, Nat.reduceLeDiff, Nat.reduceMul, Nat.reduceSub, X1, X2, X3, wd, h]
    generalize up a * up b = x at *
    have e : x % 18446744073709551616 = x := by omega
    rw [e, mn_l, w64_id (by unfold mn; split <;> omega) (by unfold mn; split <;> omega)]
    rfl
theorem ev21 {a b : Int} (ha : I64 a) (hb : I64 b) : evF X3 AP 3 21 [.int .i64 a, .int .i64 b] S0 = some (.int .i64 (mn (up a * up b) M63), S0) := by
  have a0 := up_nn a
  have a1 := up_le ha
  have b0 := up_nn b
  have b1 := up_le hb
  have c0 := Int.mul_nonneg a0 b0
  rw [evF_body (af := af21) rfl rfl rfl]
  by_cases h : 0 < up a
  · have h0 : ¬ up a = 0 := by omega
    have key : (9223372036854775807 : Int) / up a < up b ↔ 9223372036854775807 < up b * up a := Int.ediv_lt_iff_lt_mul h
    rw [Int.mul_comm (up b) (up a)] at key
    have q0 : 0 ≤ (9223372036854775807 : Int) / up a := Int.ediv_nonneg (by decide) a0
    have q1 : (9223372036854775807 : Int) / up a ≤ 9223372036854775807 := Int.ediv_le_self (up a) (by decide)
    have e : IntKind.i64.wrap (Int.tdiv 9223372036854775807 (up a)) = 9223372036854775807 / up a := by
      rw [Int.tdiv_eq_ediv_of_nonneg (by decide), w64_id (by omega) (by omega)]
    by_cases h' : 9223372036854775807 / up a < up b
    · simp -implicitDefEqProofs only [af21, evC, evOps, evOper, wanted, evAny, AOp.calls, evOp, XO.ev, XO.lit, setArgs, putD, Tr.get_set, Option.bind_some, Option.map_some, cond_true, cond_false, evArgs, maxI, maxFrom, minI, minFrom, aConv, aBin, aBinE, aEq, eqScal, aUn, aInt, evRes, fin, oneOf, if_true, if_false, callee, evF_eq, withX_some, withX_none, addX, X0, sN0, sN1, sN2, sN3, sN4, reduceCtorEq, Nat.reduceEqDiff, and_self, decide_true, decide_false, beq_true, beq_false, Bool.not_true, Bool.not_false, List.getElem?_cons_zero, List.getElem?_cons_succ, beq_self_eq_true, gt_iff_lt, ble_dec, beq_dec, List.head?_cons, AV.undef, eq_self, ne_eq, not_true_eq_false, not_false_eq_true, Int.reduceLT, Int.reduceLE, Int.reduceToNat, Int.reduceEq, Int.reduceNeg, Nat.reduceAdd, Nat.reduceLT, Nat.reduceLeDiff, Nat.reduceMul, Nat.reduceSub, X1, X2, X3, up_r, h, h0, e, h']
      have := key.1 h'
      unfold mn M63
      rw [if_pos this]
    · simp -implicitDefEqProofs only [af21, evC, evOps, evOper, wanted, evAny, AOp.calls, evOp, XO.ev, XO.lit, setArgs, putD, Tr.get_set, Option.bind_some, Option.map_some, cond_true, cond_false, evArgs, maxI, maxFrom, minI, minFrom, aConv, aBin, aBinE, aEq, eqScal, aUn, aInt, evRes, fin, oneOf, if_true, if_false, callee, evF_eq, withX_some, withX_none, addX, X0, sN0, sN1, sN2, sN3, sN4, reduceCtorEq, Nat.reduceEqDiff, and_self, decide_true, decide_false, beq_true, beq_false, Bool.not_true, Bool.not_false, List.getElem?_cons_zero, List.getElem?_cons_succ, beq_self_eq_true, gt_iff_lt, ble_dec, beq_dec, List.head?_cons, AV.undef, eq_self, ne_eq, not_true_eq_false, not_false_eq_true, Int.reduceLT, Int.reduceLE, Int.reduceToNat, Int.reduceEq, Int.reduceNeg, Nat.reduceAdd, Nat.reduceLT, Nat.reduceLeDiff, Nat.reduceMul, Nat.reduceSub, X1, X2, X3, up_r, h, h0, e, h']
      have h2 : ¬ 9223372036854775807 < up a * up b := fun k => h' (key.2 k)
      unfold mn M63
      rw [if_neg h2, w64_id (by omega) (by omega)]
  · simp -implicitDefEqProofs only [af21, evC, evOps, evOper, wanted, evAny, AOp.calls, evOp, XO.ev, XO.lit, setArgs, putD, Tr.get_set, Option.bind_some, Option.map_some, cond_true, cond_false, evArgs, maxI, maxFrom, minI, minFrom, aConv, aBin, aBinE, aEq, eqScal, aUn, aInt, evRes, fin, oneOf, if_true, if_false, callee, evF_eq, withX_some, withX_none, addX, X0, sN0, sN1, sN2, sN3, sN4, reduceCtorEq, Nat.reduceEqDiff, and_self, decide_true, decide_false, beq_true, beq_false, Bool.not_true, Bool.not_false, List.getElem?_cons_zero, List.getElem?_cons_succ, beq_self_eq_true, gt_iff_lt, ble_dec, beq_dec, List.head?_cons, AV.undef, eq_self, ne_eq, not_true_eq_false, not_false_eq_true, Int.reduceLT, Int.reduceLE, Int.reduceToNat, Int.reduceEq, Int.reduceNeg, Nat.reduceAdd, Nat.reduceLT, Nat.reduceLeDiff, Nat.reduceMul, Nat.reduceSub, X1, X2, X3, up_r, h]
    have hx : up a = 0 := by omega
    rw [hx, Int.zero_mul]
    rfl
/-! Quotients. -/
theorem ev17 {a b : Int} (ha : I64 a) (hb : I64 b) : evF X3 AP 3 17 [.int .i64 a, .int .i64 b] S0 = some (.int .i64 (upq (up a) (up b)), S0) := by
  have a0 := up_nn a
  have a1 := up_le ha
  have b0 := up_nn b
  have b1 := up_le hb
  have hu := upq_bd a0 b0
  have q0 := Int.ediv_nonneg a0 b0
  have q1 := Int.ediv_le_self (up b) a0
  have e1 : Int.tmod (up a) (up b) = up a % up b := Int.tmod_eq_emod_of_nonneg a0
  have e2 : Int.tdiv (up a) (up b) = up a / up b := Int.tdiv_eq_ediv_of_nonneg a0
  have e3 : IntKind.u64.wrap (up a / up b) = up a / up b := u64_id q0 (by omega)
  rw [evF_body (af := af17) rfl rfl rfl]
  by_cases h : up b = 0
  · simp -implicitDefEqProofs only [af17, evC, evOps, evOper, wanted, evAny, AOp.calls, evOp, XO.ev, XO.lit, setArgs, putD, Tr.get_set, Option.bind_some, Option.map_some, cond_true, cond_false, evArgs, maxI, maxFrom, minI, minFrom, aConv, aBin, aBinE, aEq, eqScal, aUn, aInt, evRes, fin, oneOf, if_true, if_false, callee, evF_eq, withX_some, withX_none, addX, X0, sN0, sN1, sN2, sN3, sN4, reduceCtorEq, Nat.reduceEqDiff, and_self, decide_true, decide_false, beq_true, beq_false, Bool.not_true, Bool.not_false, List.getElem?_cons_zero, List.getElem?_cons_succ, beq_self_eq_true, gt_iff_lt, ble_dec, beq_dec, List.head?_cons, AV.undef, eq_self, ne_eq, not_true_eq_false, not_false_eq_true, Int.reduceLT, Int.reduceLE, Int.reduceToNat, Int.reduceEq, Int.reduceNeg, Nat.reduceAdd, Nat.reduceLT, Nat.reduceLeDiff, Nat.reduceMul, Nat.reduceSub, X1, X2, X3, h]
    rfl
  · by_cases h' : 0 < up a % up b
    · simp -implicitDefEqProofs only [af17, evC, evOps, evOper, wanted, evAny, AOp.calls, evOp, XO.ev, XO.lit, setArgs, putD, Tr.get_set, Option.bind_some, Option.map_some, cond_true, cond_false, evArgs, maxI, maxFrom, minI, minFrom, aConv, aBin, aBinE, aEq, eqScal, aUn, aInt, evRes, fin, oneOf, if_true, if_false, callee, evF_eq, withX_some, withX_none, addX, X0, sN0, sN1, sN2, sN3, sN4, reduceCtorEq, Nat.reduceEqDiff, and_self, decide_true, decide_false, beq_true, beq_false, Bool.not_true, Bool.not_false, List.getElem?_cons_zero, List.getElem?_cons_succ, beq_self_eq_true, gt_iff_lt, ble_dec, beq_dec, List.head?_cons, AV.undef, eq_self, ne_eq, not_true_eq_false, not_false_eq_true, Int.reduceLT, Int.reduceLE, Int.reduceToNat, Int.reduceEq, Int.reduceNeg, Nat.reduceAdd, Nat.reduceLT, Nat.reduceLeDiff, Nat.reduceMul, Nat.reduceSub, X1, X2, X3, h, e1, e2, e3, h']
      unfold upq at hu ⊢
      rw [if_neg h, if_pos h'] at hu
      rw [if_neg h, if_pos h', u64_id (by omega) (by omega), w64_id (by omega) (by omega)]
    · simp -implicitDefEqProofs only [af17, evC, evOps, evOper, wanted, evAny, AOp.calls, evOp, XO.ev, XO.lit, setArgs, putD, Tr.get_set, Option.bind_some, Option.map_some, cond_true, cond_false, evArgs, maxI, maxFrom, minI, minFrom, aConv, aBin, aBinE, aEq, eqScal, aUn, aInt, evRes, fin, oneOf, if_true, if_false, callee, evF_eq, withX_some, withX_none, addX, X0, sN0, sN1, sN2, sN3, sN4, reduceCtorEq, Nat.reduceEqDiff, and_self, decide_true, decide_false, beq_true, beq_false, Bool.not_true, Bool.not_false, List.getElem?_cons_zero, List.getElem?_cons_succ, beq_self_eq_true, gt_iff_lt, ble_dec, beq_dec, List.head?_cons, AV.undef, eq_self, ne_eq, not_true_eq_false, not_false_eq_true, Int.reduceLT, Int.reduceLE, Int.reduceToNat, Int.reduceEq, Int.reduceNeg, Nat.reduceAdd, Nat.reduceLT, Nat.reduceLeDiff, Nat.reduceMul, Nat.reduceSub, X1, X2, X3, h, e1, e2, e3, h']
      unfold upq at hu ⊢
      rw [if_neg h, if_neg h'] at hu
      rw [if_neg h, if_neg h', w64_id (by omega) (by omega)]
theorem ev11 {a b : Int} (ha : I64 a) (hb : I64 b) : evF X3 AP 3 11 [.int .i64 a, .int .i64 b] S0 = some (.int .i64 (upq (up a) (up b)), S0) := by
  have a0 := up_nn a
  have a1 := up_le ha
  have b0 := up_nn b
  have b1 := up_le hb
  have hu := upq_bd a0 b0
  have q0 := Int.ediv_nonneg a0 b0
  have q1 := Int.ediv_le_self (up b) a0
  have e1 : Int.tmod (up a) (up b) = up a % up b := Int.tmod_eq_emod_of_nonneg a0
  have e2 : Int.tdiv (up a) (up b) = up a / up b := Int.tdiv_eq_ediv_of_nonneg a0
  have e3 : IntKind.i64.wrap (up a / up b) = up a / up b := w64_id (by omega) (by omega)
  rw [evF_body (af := af11) rfl rfl rfl]
  by_cases h : up b = 0
  · simp -implicitDefEqProofs only [af11, evC, evOps, evOper, wanted, evAny, AOp.calls, evOp, XO.ev, XO.lit, setArgs, putD, Tr.get_set, Option.bind_some, Option.map_some, cond_true, cond_false, evArgs, maxI, maxFrom, minI, minFrom, aConv, aBin, aBinE, aEq, eqScal, aUn, aInt, evRes, fin, oneOf, if_true, if_false, callee, evF_eq, withX_some, withX_none, addX, X0, sN0, sN1, sN2, sN3, sN4, reduceCtorEq, Nat.reduceEqDiff, and_self, decide_true, decide_false, beq_true, beq_false, Bool.not_true, Bool.not_false, List.getElem?_cons_zero, List.getElem?_cons_succ, beq_self_eq_true, gt_iff_lt, ble_dec, beq_dec, List.head?_cons, AV.undef, eq_self, ne_eq, not_true_eq_false, not_false_eq_true, Int.reduceLT, Int.reduceLE, Int.reduceToNat, Int.reduceEq, Int.reduceNeg, Nat.reduceAdd, Nat.reduceLT, Nat.reduceLeDiff, Nat.reduceMul, Nat.reduceSub, X1, X2, X3, up_r, h]
    rfl
  · by_cases h' : 0 < up a % up b
    · simp -implicitDefEqProofs only [af11, evC, evOps, evOper, wanted, evAny, AOp.calls, evOp, XO.ev, XO.lit, setArgs, putD, Tr.get_set, Option.bind_some, Option.map_some, cond_true, cond_false, evArgs, maxI, maxFrom, minI, minFrom, aConv, aBin, aBinE, aEq, eqScal, aUn, aInt, evRes, fin, oneOf, if_true, if_false, callee, evF_eq, withX_some, withX_none, addX, X0, sN0, sN1, sN2, sN3, sN4, reduceCtorEq, Nat.reduceEqDiff, and_self, decide_true, decide_false, beq_true, beq_false, Bool.not_true, Bool.not_false, List.getElem?_cons_zero, List.getElem?_cons_succ, beq_self_eq_true, gt_iff_lt, ble_dec, beq_dec, List.head?_cons, AV.undef, eq_self, ne_eq, not_true_eq_false, not_false_eq_true, Int.reduceLT, Int.reduceLE, Int.reduceToNat, Int.reduceEq, Int.reduceNeg, Nat.reduceAdd, Nat.reduceLT, Nat.reduceLeDiff, Nat.reduceMul, Nat.reduceSub, X1, X2, X3, up_r, h, e1, e2, e3, h']
      unfold upq at hu ⊢
      rw [if_neg h, if_pos h'] at hu
      rw [if_neg h, if_pos h', w64_id (by omega) (by omega)]
    · simp -implicitDefEqProofs only [af11, evC, evOps, evOper, wanted, evAny, AOp.calls, evOp, XO.ev, XO.lit, setArgs, putD, Tr.get_set, Option.bind_some, Option.map_some, cond_true, cond_false, evArgs, maxI, maxFrom, minI, minFrom, aConv, aBin, aBinE, aEq, eqScal, aUn, aInt, evRes, fin, oneOf, if_true, if_false, callee, evF_eq, withX_some, withX_none, addX, X0, sN0, sN1, sN2, sN3, sN4, reduceCtorEq, Nat.reduceEqDiff, and_self, decide_true, decide_false, beq_true, beq_false, Bool.not_true, Bool.not_false, List.getElem?_cons_zero, List.getElem?_cons_succ, beq_self_eq_true, gt_iff_lt, ble_dec, beq_dec, List.head?_cons, AV.undef, eq_self, ne_eq, not_true_eq_false, not_false_eq_true, Int.reduceLT, Int.reduceLE, Int.reduceToNat, Int.reduceEq, Int.reduceNeg, Nat.reduceAdd, Nat.reduceLT, Nat.reduceLeDiff, Nat.reduceMul, Nat.reduceSub, X1, X2, X3, up_r, h, e1, e2, e3, h']
      unfold upq at hu ⊢
      rw [if_neg h, if_neg h'] at hu
      rw [if_neg h, if_neg h']
/-! Comparings. -/
end Go.Proofs.YtinnclcheekhpaaA
