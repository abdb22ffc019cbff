/- Chapter 9: the closed sentence: its loops. -/
import Derived.Test.YtccjifccejcepaaClkB
import Derived.Test.YtccjifccejcepaaAeS2
set_option linter.unusedVariables false
set_option linter.unusedSimpArgs false
set_option maxRecDepth 10000
namespace Go.Proofs.YtccjifccejcepaaA
open Go.RowKit
attribute [local congr] bind_congr1 map_congr1 cond_congr1 withX_congr

def L15 : List AV := [.int .i64 (-9223372036854775808), .int .i64 (-1), .int .i64 0, .int .i64 1, .int .i64 2, .int .i64 3, .int .i64 7, .int .i64 1048576, .int .i64 2147483647, .int .i64 4294967296, .int .i64 3037000499, .int .i64 3037000500, .int .i64 4611686018427387904, .int .i64 9223372036854775806, .int .i64 9223372036854775807]
def Sl : St := S0.alloc (.cells L15 0 0 true)
def sl : AV := .slice (some (0, 0, 0)) 15 1 none
theorem rd15 {i : Int} (h0 : 0 ≤ i) (h1 : i < 15) : ∃ x, Sl.rd 0 0 (0 + i.toNat * 1) 1 = some [.int .i64 x] := by
  have : ∀ j : Nat, j < 15 → ∃ x, Sl.rd 0 0 (0 + j * 1) 1 = some [.int .i64 x] := by
    intro j hj
    match j, hj with
    | 0, _ | 1, _ | 2, _ | 3, _ | 4, _ | 5, _ | 6, _ | 7, _ | 8, _ | 9, _ | 10, _ | 11, _ | 12, _ | 13, _ | 14, _ => exact ⟨_, rfl⟩
  exact this i.toNat (by omega)
/-- What holds ahead of each round of the outer, the middle, the inner loop. -/
def I0 (T : Tm) (S : St) : Prop := S = Sl ∧ T.get 1 = some sl ∧ T.get 9 = some sl ∧ T.get 10 = some (.int .i64 15) ∧ ∃ i : Int, 0 ≤ i ∧ i ≤ 15 ∧ T.get 11 = some (.int .i64 i)
def I1 (i x : Int) (T : Tm) (S : St) : Prop := S = Sl ∧ T.get 1 = some sl ∧ T.get 9 = some sl ∧ T.get 10 = some (.int .i64 15) ∧ T.get 11 = some (.int .i64 i) ∧ T.get 3 = some (.int .i64 x) ∧ T.get 15 = some sl ∧ T.get 16 = some (.int .i64 15) ∧
  ∃ j : Int, 0 ≤ j ∧ j ≤ 15 ∧ T.get 17 = some (.int .i64 j)
def I2 (i x j y : Int) (T : Tm) (S : St) : Prop := S = Sl ∧ T.get 1 = some sl ∧ T.get 9 = some sl ∧ T.get 10 = some (.int .i64 15) ∧ T.get 11 = some (.int .i64 i) ∧ T.get 3 = some (.int .i64 x) ∧ T.get 15 = some sl ∧ T.get 16 = some (.int .i64 15) ∧
  T.get 17 = some (.int .i64 j) ∧ T.get 5 = some (.int .i64 y) ∧ T.get 21 = some sl ∧ T.get 22 = some (.int .i64 15) ∧ ∃ m : Int, 0 ≤ m ∧ m ≤ 15 ∧ T.get 23 = some (.int .i64 m)
def left (t : Nat) (T : Tm) (S : St) : Nat := match T.get t with | some (.int _ i) => (15 - i).toNat | _ => 0
theorem round2 (i x j y : Int) (T : Tm) (S : St) (h : I2 i x j y T S) : Goes (evF X13 AP 39) 39 af3_l0 T S (Then (fun T' S' => I2 i x j y T' S' ∧ left 23 T' S' < left 23 T S) fun r T' S' => r = .exit 4 ∧ I2 i x j y T' S') := by
  have hI := h
  obtain ⟨rfl, h1, h9, h10, h11, h3, h15, h16, h17, h5, h21, h22, m, m0, m1, h23⟩ := h
  unfold af3_l0
  by_cases hm : m < 15
  · obtain ⟨z, hz⟩ := rd15 m0 hm
    have w : IntKind.i64.wrap (m + 1) = m + 1 := w64_id (by omega) (by omega)
    have hix : ixOf (.int .i64 m) 15 = some m.toNat := ix_ok m0 hm
    refine .seq (.reg1 (by simp -implicitDefEqProofs (maxSteps := 10000000) only [evC, evOps, evOper, wanted, evAny, AOp.calls, evOp, XO.ev, XO.lit, setArgs, putD, Tr.get_set, Option.bind_some, Option.map_some, cond_true, cond_false, evArgs, maxI, maxFrom, minI, minFrom, aConv, aBin, aBinE, aEq, eqScal, aUn, aInt, evRes, fin, oneOf, if_true, if_false, callee, evF_eq, withX_some, withX_none, addX, X0, sN0, sN1, sN2, sN3, sN4, reduceCtorEq, Nat.reduceEqDiff, and_self, decide_true, decide_false, beq_true, beq_false, Bool.not_true, Bool.not_false, List.getElem?_cons_zero, List.getElem?_cons_succ, beq_self_eq_true, gt_iff_lt, ble_dec, beq_dec, List.head?_cons, AV.undef, eq_self, ne_eq, not_true_eq_false, not_false_eq_true, Int.reduceLT, Int.reduceLE, Int.reduceToNat, Int.reduceEq, Int.reduceNeg, Nat.reduceAdd, Nat.reduceLT, Nat.reduceLeDiff, Nat.reduceMul, Nat.reduceSub, h22, h23, hm]; exact rfl) ?_)
    refine .seq (.condT (by simp only [XO.ev, Tr.get_set, if_true]) (.skip ?_))
    refine .seq (.block (.seq (.reg1 (by simp -implicitDefEqProofs (maxSteps := 10000000) only [evC, evOps, evOper, wanted, evAny, AOp.calls, evOp, XO.ev, XO.lit, setArgs, putD, Tr.get_set, Option.bind_some, Option.map_some, cond_true, cond_false, evArgs, maxI, maxFrom, minI, minFrom, aConv, aBin, aBinE, aEq, eqScal, aUn, aInt, evRes, fin, oneOf, if_true, if_false, callee, evF_eq, withX_some, withX_none, addX, X0, sN0, sN1, sN2, sN3, sN4, reduceCtorEq, Nat.reduceEqDiff, and_self, decide_true, decide_false, beq_true, beq_false, Bool.not_true, Bool.not_false, List.getElem?_cons_zero, List.getElem?_cons_succ, beq_self_eq_true, gt_iff_lt, ble_dec, beq_dec, List.head?_cons, AV.undef, eq_self, ne_eq, not_true_eq_false, not_false_eq_true, Int.reduceLT, Int.reduceLE, Int.reduceToNat, Int.reduceEq, Int.reduceNeg, Nat.reduceAdd, Nat.reduceLT, Nat.reduceLeDiff, Nat.reduceMul, Nat.reduceSub, h21, h23, sl, hix, hz]; exact rfl) ?_)))
    refine .seq (.reg1 (by simp -implicitDefEqProofs (maxSteps := 10000000) only [evC, evOps, evOper, wanted, evAny, AOp.calls, evOp, XO.ev, XO.lit, setArgs, putD, Tr.get_set, Option.bind_some, Option.map_some, cond_true, cond_false, evArgs, maxI, maxFrom, minI, minFrom, aConv, aBin, aBinE, aEq, eqScal, aUn, aInt, evRes, fin, oneOf, if_true, if_false, callee, evF_eq, withX_some, withX_none, addX, X0, sN0, sN1, sN2, sN3, sN4, reduceCtorEq, Nat.reduceEqDiff, and_self, decide_true, decide_false, beq_true, beq_false, Bool.not_true, Bool.not_false, List.getElem?_cons_zero, List.getElem?_cons_succ, beq_self_eq_true, gt_iff_lt, ble_dec, beq_dec, List.head?_cons, AV.undef, eq_self, ne_eq, not_true_eq_false, not_false_eq_true, Int.reduceLT, Int.reduceLE, Int.reduceToNat, Int.reduceEq, Int.reduceNeg, Nat.reduceAdd, Nat.reduceLT, Nat.reduceLeDiff, Nat.reduceMul, Nat.reduceSub, h3, h5, X13, X12]; exact rfl) ?_)
    refine .condF (by simp only [XO.ev, Tr.get_set, if_true]) (.skip ?_)
    refine .reg1 (by simp -implicitDefEqProofs (maxSteps := 10000000) only [evC, evOps, evOper, wanted, evAny, AOp.calls, evOp, XO.ev, XO.lit, setArgs, putD, Tr.get_set, Option.bind_some, Option.map_some, cond_true, cond_false, evArgs, maxI, maxFrom, minI, minFrom, aConv, aBin, aBinE, aEq, eqScal, aUn, aInt, evRes, fin, oneOf, if_true, if_false, callee, evF_eq, withX_some, withX_none, addX, X0, sN0, sN1, sN2, sN3, sN4, reduceCtorEq, Nat.reduceEqDiff, and_self, decide_true, decide_false, beq_true, beq_false, Bool.not_true, Bool.not_false, List.getElem?_cons_zero, List.getElem?_cons_succ, beq_self_eq_true, gt_iff_lt, ble_dec, beq_dec, List.head?_cons, AV.undef, eq_self, ne_eq, not_true_eq_false, not_false_eq_true, Int.reduceLT, Int.reduceLE, Int.reduceToNat, Int.reduceEq, Int.reduceNeg, Nat.reduceAdd, Nat.reduceLT, Nat.reduceLeDiff, Nat.reduceMul, Nat.reduceSub, h23, w]; exact rfl) ?_
    simp only [Then, I2, left, Tr.get_set, Nat.reduceEqDiff, if_false, if_true, h1, h9, h10, h11, h3, h15, h16, h17, h5, h21, h22, h23, true_and]
    exact ⟨⟨m + 1, by omega, by omega, rfl⟩, by omega⟩
  · refine .seq (.reg1 (by simp -implicitDefEqProofs (maxSteps := 10000000) only [evC, evOps, evOper, wanted, evAny, AOp.calls, evOp, XO.ev, XO.lit, setArgs, putD, Tr.get_set, Option.bind_some, Option.map_some, cond_true, cond_false, evArgs, maxI, maxFrom, minI, minFrom, aConv, aBin, aBinE, aEq, eqScal, aUn, aInt, evRes, fin, oneOf, if_true, if_false, callee, evF_eq, withX_some, withX_none, addX, X0, sN0, sN1, sN2, sN3, sN4, reduceCtorEq, Nat.reduceEqDiff, and_self, decide_true, decide_false, beq_true, beq_false, Bool.not_true, Bool.not_false, List.getElem?_cons_zero, List.getElem?_cons_succ, beq_self_eq_true, gt_iff_lt, ble_dec, beq_dec, List.head?_cons, AV.undef, eq_self, ne_eq, not_true_eq_false, not_false_eq_true, Int.reduceLT, Int.reduceLE, Int.reduceToNat, Int.reduceEq, Int.reduceNeg, Nat.reduceAdd, Nat.reduceLT, Nat.reduceLeDiff, Nat.reduceMul, Nat.reduceSub, h22, h23, hm]; exact rfl) ?_)
    refine .seq (.condF (by simp only [XO.ev, Tr.get_set, if_true]) (.exit ?_))
    simp only [Then, I2, Tr.get_set, Nat.reduceEqDiff, if_false, if_true, h1, h9, h10, h11, h3, h15, h16, h17, h5, h21, h22, h23, true_and]
    exact ⟨m, m0, m1, rfl⟩
theorem c15 : ((15 : Nat) : Int) = 15 := rfl
theorem round1 (i x : Int) (T : Tm) (S : St) (h : I1 i x T S) : Goes (evF X13 AP 39) 39 af3_l1 T S (Then (fun T' S' => I1 i x T' S' ∧ left 17 T' S' < left 17 T S) fun r T' S' => r = .exit 2 ∧ I1 i x T' S') := by
  obtain ⟨rfl, h1, h9, h10, h11, h3, h15, h16, j, j0, j1, h17⟩ := h
  unfold af3_l1
  by_cases hj : j < 15
  · obtain ⟨z, hz⟩ := rd15 j0 hj
    have w : IntKind.i64.wrap (j + 1) = j + 1 := w64_id (by omega) (by omega)
    have hix : ixOf (.int .i64 j) 15 = some j.toNat := ix_ok j0 hj
    refine .seq (.reg1 (by simp -implicitDefEqProofs (maxSteps := 10000000) only [evC, evOps, evOper, wanted, evAny, AOp.calls, evOp, XO.ev, XO.lit, setArgs, putD, Tr.get_set, Option.bind_some, Option.map_some, cond_true, cond_false, evArgs, maxI, maxFrom, minI, minFrom, aConv, aBin, aBinE, aEq, eqScal, aUn, aInt, evRes, fin, oneOf, if_true, if_false, callee, evF_eq, withX_some, withX_none, addX, X0, sN0, sN1, sN2, sN3, sN4, reduceCtorEq, Nat.reduceEqDiff, and_self, decide_true, decide_false, beq_true, beq_false, Bool.not_true, Bool.not_false, List.getElem?_cons_zero, List.getElem?_cons_succ, beq_self_eq_true, gt_iff_lt, ble_dec, beq_dec, List.head?_cons, AV.undef, eq_self, ne_eq, not_true_eq_false, not_false_eq_true, Int.reduceLT, Int.reduceLE, Int.reduceToNat, Int.reduceEq, Int.reduceNeg, Nat.reduceAdd, Nat.reduceLT, Nat.reduceLeDiff, Nat.reduceMul, Nat.reduceSub, h16, h17, hj]; exact rfl) ?_)
    refine .seq (.condT (by simp only [XO.ev, Tr.get_set, if_true]) (.skip ?_))
    refine .seq (.block (.seq (.reg1 (by simp -implicitDefEqProofs (maxSteps := 10000000) only [evC, evOps, evOper, wanted, evAny, AOp.calls, evOp, XO.ev, XO.lit, setArgs, putD, Tr.get_set, Option.bind_some, Option.map_some, cond_true, cond_false, evArgs, maxI, maxFrom, minI, minFrom, aConv, aBin, aBinE, aEq, eqScal, aUn, aInt, evRes, fin, oneOf, if_true, if_false, callee, evF_eq, withX_some, withX_none, addX, X0, sN0, sN1, sN2, sN3, sN4, reduceCtorEq, Nat.reduceEqDiff, and_self, decide_true, decide_false, beq_true, beq_false, Bool.not_true, Bool.not_false, List.getElem?_cons_zero, List.getElem?_cons_succ, beq_self_eq_true, gt_iff_lt, ble_dec, beq_dec, List.head?_cons, AV.undef, eq_self, ne_eq, not_true_eq_false, not_false_eq_true, Int.reduceLT, Int.reduceLE, Int.reduceToNat, Int.reduceEq, Int.reduceNeg, Nat.reduceAdd, Nat.reduceLT, Nat.reduceLeDiff, Nat.reduceMul, Nat.reduceSub, h15, h17, sl, hix, hz]; exact rfl) ?_)))
    refine .seq (.reg1 (by simp -implicitDefEqProofs (maxSteps := 10000000) only [evC, evOps, evOper, wanted, evAny, AOp.calls, evOp, XO.ev, XO.lit, setArgs, putD, Tr.get_set, Option.bind_some, Option.map_some, cond_true, cond_false, evArgs, maxI, maxFrom, minI, minFrom, aConv, aBin, aBinE, aEq, eqScal, aUn, aInt, evRes, fin, oneOf, if_true, if_false, callee, evF_eq, withX_some, withX_none, addX, X0, sN0, sN1, sN2, sN3, sN4, reduceCtorEq, Nat.reduceEqDiff, and_self, decide_true, decide_false, beq_true, beq_false, Bool.not_true, Bool.not_false, List.getElem?_cons_zero, List.getElem?_cons_succ, beq_self_eq_true, gt_iff_lt, ble_dec, beq_dec, List.head?_cons, AV.undef, eq_self, ne_eq, not_true_eq_false, not_false_eq_true, Int.reduceLT, Int.reduceLE, Int.reduceToNat, Int.reduceEq, Int.reduceNeg, Nat.reduceAdd, Nat.reduceLT, Nat.reduceLeDiff, Nat.reduceMul, Nat.reduceSub, h1, sl]; exact rfl) ?_)
    refine .block (.loop (I2 i x j z) (left 23) ?_ ?_ ?_)
    · simp only [I2, Tr.get_set, Nat.reduceEqDiff, if_false, if_true, h1, h9, h10, h11, h3, h15, h16, h17, sl, true_and, c15]
      exact ⟨0, by omega, by omega, rfl⟩
    · simp only [left, Tr.get_set, Nat.reduceEqDiff, if_false, if_true]
      decide
    · intro T2 S2 h2
      refine (round2 i x j z T2 S2 h2).mono fun r T' S' hr => ?_
      cases r with
      | normal => exact hr
      | ret => cases hr.1
      | exit id =>
        obtain ⟨hid, rfl, g1, g9, g10, g11, g3, g15, g16, g17, g5, g21, g22, m, m0, m1, g23⟩ := hr
        cases hid
        simp only [Then, Blk, if_true]
        refine .reg1 (by simp -implicitDefEqProofs (maxSteps := 10000000) only [evC, evOps, evOper, wanted, evAny, AOp.calls, evOp, XO.ev, XO.lit, setArgs, putD, Tr.get_set, Option.bind_some, Option.map_some, cond_true, cond_false, evArgs, maxI, maxFrom, minI, minFrom, aConv, aBin, aBinE, aEq, eqScal, aUn, aInt, evRes, fin, oneOf, if_true, if_false, callee, evF_eq, withX_some, withX_none, addX, X0, sN0, sN1, sN2, sN3, sN4, reduceCtorEq, Nat.reduceEqDiff, and_self, decide_true, decide_false, beq_true, beq_false, Bool.not_true, Bool.not_false, List.getElem?_cons_zero, List.getElem?_cons_succ, beq_self_eq_true, gt_iff_lt, ble_dec, beq_dec, List.head?_cons, AV.undef, eq_self, ne_eq, not_true_eq_false, not_false_eq_true, Int.reduceLT, Int.reduceLE, Int.reduceToNat, Int.reduceEq, Int.reduceNeg, Nat.reduceAdd, Nat.reduceLT, Nat.reduceLeDiff, Nat.reduceMul, Nat.reduceSub, g17, w]; exact rfl) ?_
        simp only [Then, I1, left, Tr.get_set, Nat.reduceEqDiff, if_false, if_true, h17, g1, g9, g10, g11, g3, g15, g16, g17, true_and]
        exact ⟨⟨j + 1, by omega, by omega, rfl⟩, by omega⟩
  · refine .seq (.reg1 (by simp -implicitDefEqProofs (maxSteps := 10000000) only [evC, evOps, evOper, wanted, evAny, AOp.calls, evOp, XO.ev, XO.lit, setArgs, putD, Tr.get_set, Option.bind_some, Option.map_some, cond_true, cond_false, evArgs, maxI, maxFrom, minI, minFrom, aConv, aBin, aBinE, aEq, eqScal, aUn, aInt, evRes, fin, oneOf, if_true, if_false, callee, evF_eq, withX_some, withX_none, addX, X0, sN0, sN1, sN2, sN3, sN4, reduceCtorEq, Nat.reduceEqDiff, and_self, decide_true, decide_false, beq_true, beq_false, Bool.not_true, Bool.not_false, List.getElem?_cons_zero, List.getElem?_cons_succ, beq_self_eq_true, gt_iff_lt, ble_dec, beq_dec, List.head?_cons, AV.undef, eq_self, ne_eq, not_true_eq_false, not_false_eq_true, Int.reduceLT, Int.reduceLE, Int.reduceToNat, Int.reduceEq, Int.reduceNeg, Nat.reduceAdd, Nat.reduceLT, Nat.reduceLeDiff, Nat.reduceMul, Nat.reduceSub, h16, h17, hj]; exact rfl) ?_)
    refine .seq (.condF (by simp only [XO.ev, Tr.get_set, if_true]) (.exit ?_))
    simp only [Then, I1, Tr.get_set, Nat.reduceEqDiff, if_false, if_true, h1, h9, h10, h11, h3, h15, h16, h17, true_and]
    exact ⟨j, j0, j1, rfl⟩
theorem round0 (T : Tm) (S : St) (h : I0 T S) : Goes (evF X13 AP 39) 39 af3_l2 T S (Then (fun T' S' => I0 T' S' ∧ left 11 T' S' < left 11 T S) fun r T' S' => r = .exit 0 ∧ I0 T' S') := by
  obtain ⟨rfl, h1, h9, h10, i, i0, i1, h11⟩ := h
  unfold af3_l2
  by_cases hi : i < 15
  · obtain ⟨z, hz⟩ := rd15 i0 hi
    have w : IntKind.i64.wrap (i + 1) = i + 1 := w64_id (by omega) (by omega)
    have hix : ixOf (.int .i64 i) 15 = some i.toNat := ix_ok i0 hi
    refine .seq (.reg1 (by simp -implicitDefEqProofs (maxSteps := 10000000) only [evC, evOps, evOper, wanted, evAny, AOp.calls, evOp, XO.ev, XO.lit, setArgs, putD, Tr.get_set, Option.bind_some, Option.map_some, cond_true, cond_false, evArgs, maxI, maxFrom, minI, minFrom, aConv, aBin, aBinE, aEq, eqScal, aUn, aInt, evRes, fin, oneOf, if_true, if_false, callee, evF_eq, withX_some, withX_none, addX, X0, sN0, sN1, sN2, sN3, sN4, reduceCtorEq, Nat.reduceEqDiff, and_self, decide_true, decide_false, beq_true, beq_false, Bool.not_true, Bool.not_false, List.getElem?_cons_zero, List.getElem?_cons_succ, beq_self_eq_true, gt_iff_lt, ble_dec, beq_dec, List.head?_cons, AV.undef, eq_self, ne_eq, not_true_eq_false, not_false_eq_true, Int.reduceLT, Int.reduceLE, Int.reduceToNat, Int.reduceEq, Int.reduceNeg, Nat.reduceAdd, Nat.reduceLT, Nat.reduceLeDiff, Nat.reduceMul, Nat.reduceSub, h10, h11, hi]; exact rfl) ?_)
    refine .seq (.condT (by simp only [XO.ev, Tr.get_set, if_true]) (.skip ?_))
    refine .seq (.block (.seq (.reg1 (by simp -implicitDefEqProofs (maxSteps := 10000000) only [evC, evOps, evOper, wanted, evAny, AOp.calls, evOp, XO.ev, XO.lit, setArgs, putD, Tr.get_set, Option.bind_some, Option.map_some, cond_true, cond_false, evArgs, maxI, maxFrom, minI, minFrom, aConv, aBin, aBinE, aEq, eqScal, aUn, aInt, evRes, fin, oneOf, if_true, if_false, callee, evF_eq, withX_some, withX_none, addX, X0, sN0, sN1, sN2, sN3, sN4, reduceCtorEq, Nat.reduceEqDiff, and_self, decide_true, decide_false, beq_true, beq_false, Bool.not_true, Bool.not_false, List.getElem?_cons_zero, List.getElem?_cons_succ, beq_self_eq_true, gt_iff_lt, ble_dec, beq_dec, List.head?_cons, AV.undef, eq_self, ne_eq, not_true_eq_false, not_false_eq_true, Int.reduceLT, Int.reduceLE, Int.reduceToNat, Int.reduceEq, Int.reduceNeg, Nat.reduceAdd, Nat.reduceLT, Nat.reduceLeDiff, Nat.reduceMul, Nat.reduceSub, h9, h11, sl, hix, hz]; exact rfl) ?_)))
    refine .seq (.reg1 (by simp -implicitDefEqProofs (maxSteps := 10000000) only [evC, evOps, evOper, wanted, evAny, AOp.calls, evOp, XO.ev, XO.lit, setArgs, putD, Tr.get_set, Option.bind_some, Option.map_some, cond_true, cond_false, evArgs, maxI, maxFrom, minI, minFrom, aConv, aBin, aBinE, aEq, eqScal, aUn, aInt, evRes, fin, oneOf, if_true, if_false, callee, evF_eq, withX_some, withX_none, addX, X0, sN0, sN1, sN2, sN3, sN4, reduceCtorEq, Nat.reduceEqDiff, and_self, decide_true, decide_false, beq_true, beq_false, Bool.not_true, Bool.not_false, List.getElem?_cons_zero, List.getElem?_cons_succ, beq_self_eq_true, gt_iff_lt, ble_dec, beq_dec, List.head?_cons, AV.undef, eq_self, ne_eq, not_true_eq_false, not_false_eq_true, Int.reduceLT, Int.reduceLE, Int.reduceToNat, Int.reduceEq, Int.reduceNeg, Nat.reduceAdd, Nat.reduceLT, Nat.reduceLeDiff, Nat.reduceMul, Nat.reduceSub, h1, sl]; exact rfl) ?_)
    refine .block (.loop (I1 i z) (left 17) ?_ ?_ ?_)
    · simp only [I1, Tr.get_set, Nat.reduceEqDiff, if_false, if_true, h1, h9, h10, h11, sl, true_and, c15]
      exact ⟨0, by omega, by omega, rfl⟩
    · simp only [left, Tr.get_set, Nat.reduceEqDiff, if_false, if_true]
      decide
    · intro T2 S2 h2
      refine (round1 i z T2 S2 h2).mono fun r T' S' hr => ?_
      cases r with
      | normal => exact hr
      | ret => cases hr.1
      | exit id =>
        obtain ⟨hid, rfl, g1, g9, g10, g11, g3, g15, g16, m, m0, m1, g17⟩ := hr
        cases hid
        simp only [Then, Blk, if_true]
        refine .reg1 (by simp -implicitDefEqProofs (maxSteps := 10000000) only [evC, evOps, evOper, wanted, evAny, AOp.calls, evOp, XO.ev, XO.lit, setArgs, putD, Tr.get_set, Option.bind_some, Option.map_some, cond_true, cond_false, evArgs, maxI, maxFrom, minI, minFrom, aConv, aBin, aBinE, aEq, eqScal, aUn, aInt, evRes, fin, oneOf, if_true, if_false, callee, evF_eq, withX_some, withX_none, addX, X0, sN0, sN1, sN2, sN3, sN4, reduceCtorEq, Nat.reduceEqDiff, and_self, decide_true, decide_false, beq_true, beq_false, Bool.not_true, Bool.not_false, List.getElem?_cons_zero, List.getElem?_cons_succ, beq_self_eq_true, gt_iff_lt, ble_dec, beq_dec, List.head?_cons, AV.undef, eq_self, ne_eq, not_true_eq_false, not_false_eq_true, Int.reduceLT, Int.reduceLE, Int.reduceToNat, Int.reduceEq, Int.reduceNeg, Nat.reduceAdd, Nat.reduceLT, Nat.reduceLeDiff, Nat.reduceMul, Nat.reduceSub, g11, w]; exact rfl) ?_
        simp only [Then, I0, left, Tr.get_set, Nat.reduceEqDiff, if_false, if_true, h11, g1, g9, g10, g11, g3, g15, g16, g17, true_and]
        exact ⟨⟨i + 1, by omega, by omega, rfl⟩, by omega⟩
  · refine .seq (.reg1 (by simp -implicitDefEqProofs (maxSteps := 10000000) only [evC, evOps, evOper, wanted, evAny, AOp.calls, evOp, XO.ev, XO.lit, setArgs, putD, Tr.get_set, Option.bind_some, Option.map_some, cond_true, cond_false, evArgs, maxI, maxFrom, minI, minFrom, aConv, aBin, aBinE, aEq, eqScal, aUn, aInt, evRes, fin, oneOf, if_true, if_false, callee, evF_eq, withX_some, withX_none, addX, X0, sN0, sN1, sN2, sN3, sN4, reduceCtorEq, Nat.reduceEqDiff, and_self, decide_true, decide_false, beq_true, beq_false, Bool.not_true, Bool.not_false, List.getElem?_cons_zero, List.getElem?_cons_succ, beq_self_eq_true, gt_iff_lt, ble_dec, beq_dec, List.head?_cons, AV.undef, eq_self, ne_eq, not_true_eq_false, not_false_eq_true, Int.reduceLT, Int.reduceLE, Int.reduceToNat, Int.reduceEq, Int.reduceNeg, Nat.reduceAdd, Nat.reduceLT, Nat.reduceLeDiff, Nat.reduceMul, Nat.reduceSub, h10, h11, hi]; exact rfl) ?_)
    refine .seq (.condF (by simp only [XO.ev, Tr.get_set, if_true]) (.exit ?_))
    simp only [Then, I0, Tr.get_set, Nat.reduceEqDiff, if_false, if_true, h1, h9, h10, h11, true_and]
    exact ⟨i, i0, i1, rfl⟩
theorem ev3 : ∃ S', evF X13 AP 40 3 [] S0 = some (.bool true, S') := by
  have h : ∃ v S', evF X13 AP 40 3 [] S0 = some (v, S') ∧ v = .bool true := by
    refine evF_goes (af := af3) (k := 39) rfl rfl rfl ?_
    simp only [af3, setArgs]
    refine .seq (.reg1 (by simp -implicitDefEqProofs (maxSteps := 10000000) only [evC, evOps, evOper, wanted, evAny, AOp.calls, evOp, XO.ev, XO.lit, setArgs, putD, Tr.get_set, Option.bind_some, Option.map_some, cond_true, cond_false, evArgs, maxI, maxFrom, minI, minFrom, aConv, aBin, aBinE, aEq, eqScal, aUn, aInt, evRes, fin, oneOf, if_true, if_false, callee, evF_eq, withX_some, withX_none, addX, X0, sN0, sN1, sN2, sN3, sN4, reduceCtorEq, Nat.reduceEqDiff, and_self, decide_true, decide_false, beq_true, beq_false, Bool.not_true, Bool.not_false, List.getElem?_cons_zero, List.getElem?_cons_succ, beq_self_eq_true, gt_iff_lt, ble_dec, beq_dec, List.head?_cons, AV.undef, eq_self, ne_eq, not_true_eq_false, not_false_eq_true, Int.reduceLT, Int.reduceLE, Int.reduceToNat, Int.reduceEq, Int.reduceNeg, Nat.reduceAdd, Nat.reduceLT, Nat.reduceLeDiff, Nat.reduceMul, Nat.reduceSub]; exact rfl) ?_)
    refine .seq (.reg1 (T' := (((Tr.lf.set 0 (.bool false)).set 8 sl).set 1 sl)) (S' := Sl) ?_ ?_)
    · rfl
    refine .seq (.seq (.reg1 (by simp -implicitDefEqProofs (maxSteps := 10000000) only [evC, evOps, evOper, wanted, evAny, AOp.calls, evOp, XO.ev, XO.lit, setArgs, putD, Tr.get_set, Option.bind_some, Option.map_some, cond_true, cond_false, evArgs, maxI, maxFrom, minI, minFrom, aConv, aBin, aBinE, aEq, eqScal, aUn, aInt, evRes, fin, oneOf, if_true, if_false, callee, evF_eq, withX_some, withX_none, addX, X0, sN0, sN1, sN2, sN3, sN4, reduceCtorEq, Nat.reduceEqDiff, and_self, decide_true, decide_false, beq_true, beq_false, Bool.not_true, Bool.not_false, List.getElem?_cons_zero, List.getElem?_cons_succ, beq_self_eq_true, gt_iff_lt, ble_dec, beq_dec, List.head?_cons, AV.undef, eq_self, ne_eq, not_true_eq_false, not_false_eq_true, Int.reduceLT, Int.reduceLE, Int.reduceToNat, Int.reduceEq, Int.reduceNeg, Nat.reduceAdd, Nat.reduceLT, Nat.reduceLeDiff, Nat.reduceMul, Nat.reduceSub, sl]; exact rfl) ?_))
    refine .block (.loop I0 (left 11) ?_ ?_ ?_)
    · simp only [I0, Tr.get_set, Nat.reduceEqDiff, if_false, if_true, sl, true_and, c15]
      exact ⟨0, by omega, by omega, rfl⟩
    · simp only [left, Tr.get_set, Nat.reduceEqDiff, if_false, if_true]
      decide
    · intro T2 S2 h2
      refine (round0 T2 S2 h2).mono fun r T' S' hr => ?_
      cases r with
      | normal => exact hr
      | ret => cases hr.1
      | exit id =>
        obtain ⟨hid, rfl, g1, g9, g10, m, m0, m1, g11⟩ := hr
        cases hid
        simp only [Then, Blk, if_true]
        refine .seq (.reg1 (by simp -implicitDefEqProofs (maxSteps := 10000000) only [evC, evOps, evOper, wanted, evAny, AOp.calls, evOp, XO.ev, XO.lit, setArgs, putD, Tr.get_set, Option.bind_some, Option.map_some, cond_true, cond_false, evArgs, maxI, maxFrom, minI, minFrom, aConv, aBin, aBinE, aEq, eqScal, aUn, aInt, evRes, fin, oneOf, if_true, if_false, callee, evF_eq, withX_some, withX_none, addX, X0, sN0, sN1, sN2, sN3, sN4, reduceCtorEq, Nat.reduceEqDiff, and_self, decide_true, decide_false, beq_true, beq_false, Bool.not_true, Bool.not_false, List.getElem?_cons_zero, List.getElem?_cons_succ, beq_self_eq_true, gt_iff_lt, ble_dec, beq_dec, List.head?_cons, AV.undef, eq_self, ne_eq, not_true_eq_false, not_false_eq_true, Int.reduceLT, Int.reduceLE, Int.reduceToNat, Int.reduceEq, Int.reduceNeg, Nat.reduceAdd, Nat.reduceLT, Nat.reduceLeDiff, Nat.reduceMul, Nat.reduceSub, X13]; exact rfl) ?_)
        refine .ret ⟨_, _, by simp only [fin, evRes, Tr.get_set, Nat.reduceEqDiff, if_false, if_true, Option.bind_some, Option.map_some, oneOf]; exact rfl, rfl⟩
  obtain ⟨v, S', h1, rfl⟩ := h
  exact ⟨S', h1⟩
end Go.Proofs.YtccjifccejcepaaA
