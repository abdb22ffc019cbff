/- Chapter 15: numbers that go on by less than half of all are told whole. -/
import Derived.Test.YtanloaedpalblaaSeqA
set_option linter.unusedVariables false
set_option linter.unusedSimpArgs false
set_option maxRecDepth 10000
namespace Go.Proofs.YtanloaedpalblaaA
open Go.RowKit
attribute [local congr] bind_congr1 map_congr1 cond_congr1 withX_congr

theorem ext16 {x y : Int} (h0 : 0 ≤ x) (h1 : x < 1125899906842624) (h2 : 0 ≤ y) (h3 : -32766 ≤ y - x) (h4 : y - x ≤ 32766) : ext 65536 x (y % 65536) = y := by
  unfold ext
  rw [if_neg (by omega)]
  dsimp only
  split <;> split <;> omega
theorem ext32 {x y : Int} (h0 : 0 ≤ x) (h1 : x < 1125899906842624) (h2 : 0 ≤ y) (h3 : -2147483646 ≤ y - x) (h4 : y - x ≤ 2147483646) : ext 4294967296 x (y % 4294967296) = y := by
  unfold ext
  rw [if_neg (by omega)]
  dsimp only
  split <;> split <;> omega
theorem mask50 (x : Int) : Go.bits .and .i64 x 1125899906842623 = x % 1125899906842624 := and_i64 50 (by decide) x
theorem tmod_bd (a b : Int) (hb : 0 < b) : -b < Int.tmod a b ∧ Int.tmod a b < b := by
  refine ⟨?_, Int.tmod_lt_of_pos a hb⟩
  have := Int.tmod_lt_of_pos (-a) hb
  rw [Int.neg_tmod] at this
  omega
set_option maxHeartbeats 4000000 in
theorem ev5 (a b : Int) : evF X3 AP 4 5 [.int .i64 a, .int .i64 b] S0 = some (.bool true, S0) := by
  rw [evF_body (af := af5) rfl rfl rfl]
  have p := tmod_bd b 32767 (by decide)
  have q := tmod_bd b 2147483647 (by decide)
  have hx0 : 0 ≤ a % 1125899906842624 := by omega
  have hx1 : a % 1125899906842624 < 1125899906842624 := by omega
  obtain ⟨x, hx⟩ : ∃ x, a % 1125899906842624 = x := ⟨_, rfl⟩
  obtain ⟨s, hs⟩ : ∃ s, Int.tmod b 32767 = s := ⟨_, rfl⟩
  obtain ⟨t, ht⟩ : ∃ t, Int.tmod b 2147483647 = t := ⟨_, rfl⟩
  rw [hs] at p
  rw [ht] at q
  rw [hx] at hx0 hx1
  have w1 : IntKind.i64.wrap (x + s) = x + s := w64_id (by omega) (by omega)
  have w2 : IntKind.i64.wrap (x + t) = x + t := w64_id (by omega) (by omega)
  have e1 : ext 65536 x (x % 65536) = x := ext16 hx0 hx1 hx0 (by omega) (by omega)
  have e2 : ext 4294967296 x (x % 4294967296) = x := ext32 hx0 hx1 hx0 (by omega) (by omega)
  by_cases c1 : x + s < 0
  · simp -implicitDefEqProofs (maxSteps := 10000000) only [af5, evC, evOps, evOper, wanted, evAny, AOp.calls, evOp, XO.ev, XO.lit, setArgs, putD, Tr.get_set, Option.bind_some, Option.map_some, cond_true, cond_false, evArgs, maxI, maxFrom, minI, minFrom, aConv, aBin, aBinE, aEq, eqScal, aUn, aInt, evRes, fin, oneOf, if_true, if_false, callee, evF_eq, withX_some, withX_none, addX, X0, sN0, sN1, sN2, sN3, sN4, reduceCtorEq, Nat.reduceEqDiff, and_self, decide_true, decide_false, beq_true, beq_false, Bool.not_true, Bool.not_false, List.getElem?_cons_zero, List.getElem?_cons_succ, beq_self_eq_true, gt_iff_lt, ble_dec, beq_dec, List.head?_cons, AV.undef, eq_self, ne_eq, not_true_eq_false, not_false_eq_true, Int.reduceLT, Int.reduceLE, Int.reduceToNat, Int.reduceEq, Int.reduceNeg, Nat.reduceAdd, Nat.reduceLT, Nat.reduceLeDiff, Nat.reduceMul, Nat.reduceSub, X3, X2, X1, mask50, hx, hs, ht, w1, w2, c1, wrap_u16, IntKind.wrap_u32, e1, e2]
  · by_cases c2 : x + t < 0
    · simp -implicitDefEqProofs (maxSteps := 10000000) only [af5, evC, evOps, evOper, wanted, evAny, AOp.calls, evOp, XO.ev, XO.lit, setArgs, putD, Tr.get_set, Option.bind_some, Option.map_some, cond_true, cond_false, evArgs, maxI, maxFrom, minI, minFrom, aConv, aBin, aBinE, aEq, eqScal, aUn, aInt, evRes, fin, oneOf, if_true, if_false, callee, evF_eq, withX_some, withX_none, addX, X0, sN0, sN1, sN2, sN3, sN4, reduceCtorEq, Nat.reduceEqDiff, and_self, decide_true, decide_false, beq_true, beq_false, Bool.not_true, Bool.not_false, List.getElem?_cons_zero, List.getElem?_cons_succ, beq_self_eq_true, gt_iff_lt, ble_dec, beq_dec, List.head?_cons, AV.undef, eq_self, ne_eq, not_true_eq_false, not_false_eq_true, Int.reduceLT, Int.reduceLE, Int.reduceToNat, Int.reduceEq, Int.reduceNeg, Nat.reduceAdd, Nat.reduceLT, Nat.reduceLeDiff, Nat.reduceMul, Nat.reduceSub, X3, X2, X1, mask50, hx, hs, ht, w1, w2, c1, c2, wrap_u16, IntKind.wrap_u32, e1, e2]
    · have e3 : ext 65536 x ((x + s) % 65536) = x + s := ext16 hx0 hx1 (by omega) (by omega) (by omega)
      have e4 : ext 4294967296 x ((x + t) % 4294967296) = x + t := ext32 hx0 hx1 (by omega) (by omega) (by omega)
      simp -implicitDefEqProofs (maxSteps := 10000000) only [af5, evC, evOps, evOper, wanted, evAny, AOp.calls, evOp, XO.ev, XO.lit, setArgs, putD, Tr.get_set, Option.bind_some, Option.map_some, cond_true, cond_false, evArgs, maxI, maxFrom, minI, minFrom, aConv, aBin, aBinE, aEq, eqScal, aUn, aInt, evRes, fin, oneOf, if_true, if_false, callee, evF_eq, withX_some, withX_none, addX, X0, sN0, sN1, sN2, sN3, sN4, reduceCtorEq, Nat.reduceEqDiff, and_self, decide_true, decide_false, beq_true, beq_false, Bool.not_true, Bool.not_false, List.getElem?_cons_zero, List.getElem?_cons_succ, beq_self_eq_true, gt_iff_lt, ble_dec, beq_dec, List.head?_cons, AV.undef, eq_self, ne_eq, not_true_eq_false, not_false_eq_true, Int.reduceLT, Int.reduceLE, Int.reduceToNat, Int.reduceEq, Int.reduceNeg, Nat.reduceAdd, Nat.reduceLT, Nat.reduceLeDiff, Nat.reduceMul, Nat.reduceSub, X3, X2, X1, mask50, hx, hs, ht, w1, w2, c1, c2, wrap_u16, IntKind.wrap_u32, e1, e2, e3, e4]
end Go.Proofs.YtanloaedpalblaaA
