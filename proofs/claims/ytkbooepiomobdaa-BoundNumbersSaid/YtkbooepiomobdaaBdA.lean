/- Chapter 13: what the pure functions come to. -/
import Derived.Test.YtkbooepiomobdaaAf
import Derived.Test.YtkbooepiomobdaaAeNum
import Derived.Test.YtkbooepiomobdaaAeS8
set_option linter.unusedVariables false
set_option linter.unusedSimpArgs false
set_option maxRecDepth 10000
namespace Go.Proofs.YtkbooepiomobdaaA
open Go.RowKit
attribute [local congr] bind_congr1 map_congr1 cond_congr1 withX_congr after_congr br_congr gd_congr

theorem and_u64_32 (x : Int) : Go.bits .and .u64 x 4294967295 = x % 4294967296 := and_u64 32 (by decide) x
theorem prod_bd {x y : Int} (hx0 : 0 ≤ x) (hx : x ≤ 4294967295) (hy0 : 0 ≤ y) (hy : y ≤ 4294967295) : 0 ≤ x * y ∧ x * y ≤ 18446744065119617025 :=
  ⟨Int.mul_nonneg hx0 hy0, by have := Int.mul_le_mul hx hy hy0 (by decide); omega⟩
theorem halves (a b : Int) : a * b = (a / 4294967296) * (b / 4294967296) * 18446744073709551616 + (a / 4294967296) * (b % 4294967296) * 4294967296 + (a % 4294967296) * (b / 4294967296) * 4294967296 + (a % 4294967296) * (b % 4294967296) := by
  have ha : a = (a / 4294967296) * 4294967296 + a % 4294967296 := by omega
  have hb : b = (b / 4294967296) * 4294967296 + b % 4294967296 := by omega
  generalize a / 4294967296 = x at *
  generalize a % 4294967296 = y at *
  generalize b / 4294967296 = z at *
  generalize b % 4294967296 = u at *
  subst ha hb
  grind
theorem two_pow_32 : ((2 : Int) ^ min 32 (IntKind.bits .u64)) = 4294967296 := by decide
theorem lt64 {a : Int} (h : (Lit.int .u64 a).wf = true) : 0 ≤ a ∧ a < 18446744073709551616 := by have := wf_u64 h; omega
def wd (a b : Int) : AV := .tuple [.int .u64 (a * b / 18446744073709551616), .int .u64 (a * b % 18446744073709551616)]
theorem ev48 {a b : Int} (ha : 0 ≤ a) (ha' : a < 18446744073709551616) (hb : 0 ≤ b) (hb' : b < 18446744073709551616) :
    evF X0 AP 3 48 [.int .u64 a, .int .u64 b] S0 = some (.tuple [.int .u64 (a * b / 18446744073709551616), .int .u64 (a * b % 18446744073709551616)], S0) := by
  have h := halves a b
  have p1 := prod_bd (x := a / 4294967296) (y := b / 4294967296) (by omega) (by omega) (by omega) (by omega)
  have p2 := prod_bd (x := a / 4294967296) (y := b % 4294967296) (by omega) (by omega) (by omega) (by omega)
  have p3 := prod_bd (x := a % 4294967296) (y := b / 4294967296) (by omega) (by omega) (by omega) (by omega)
  have p4 := prod_bd (x := a % 4294967296) (y := b % 4294967296) (by omega) (by omega) (by omega) (by omega)
  rw [evF_body (af := af48) rfl rfl rfl]
  simp -implicitDefEqProofs only [af48, evC, evOps, evOper, wanted, evAny, AOp.calls, evOp, XO.ev, XO.lit, setArgs, putD, Tr.get_set, Option.bind_some, Option.map_some, cond_true, cond_false, evArgs, maxI, maxFrom, minI, minFrom, aConv, aBin, aBinE, aEq, eqScal, aUn, aInt, evRes, fin, oneOf, if_true, if_false, callee, evF_eq, withX_some, withX_none, addX, X0, sN0, sN1, sN2, sN3, sN4, reduceCtorEq, Nat.reduceEqDiff, and_self, decide_true, decide_false, beq_true, beq_false, Bool.not_true, Bool.not_false, List.getElem?_cons_zero, List.getElem?_cons_succ, beq_self_eq_true, gt_iff_lt, ble_dec, beq_dec, List.head?_cons, AV.undef, eq_self, ne_eq, not_true_eq_false, not_false_eq_true, Int.reduceLT, Int.reduceLE, Int.reduceToNat, Int.reduceEq, Int.reduceNeg, Nat.reduceAdd, Nat.reduceLT, Nat.reduceLeDiff, Nat.reduceMul, Nat.reduceSub, two_pow_32, and_u64_32, wrap_u64]
  rw [h]
  generalize (a / 4294967296) * (b / 4294967296) = p at *
  generalize (a / 4294967296) * (b % 4294967296) = q at *
  generalize (a % 4294967296) * (b / 4294967296) = r at *
  generalize (a % 4294967296) * (b % 4294967296) = s at *
  rw [Int.emod_eq_of_lt p1.1 (by omega), Int.emod_eq_of_lt p2.1 (by omega), Int.emod_eq_of_lt p3.1 (by omega), Int.emod_eq_of_lt p4.1 (by omega)]
  rw [Int.emod_eq_of_lt (a := s / 4294967296 + q % 4294967296) (by omega) (by omega)]
  rw [Int.emod_eq_of_lt (a := s / 4294967296 + q % 4294967296 + r % 4294967296) (by omega) (by omega)]
  congr 5
  omega
def X1 := addX X0 48 (sN2 .u64 .u64 wd)
theorem ok1 : XOk Try.prog X1 := addX_N2 mixed (X0_ok _) apOk (entry_of apOk (af := af48) rfl) (fun _ _ => rfl) fun a b wa wb => ⟨3, S0, ev48 (lt64 wa).1 (lt64 wa).2 (lt64 wb).1 (lt64 wb).2⟩
theorem ev44 {a b c d : Int} (ha : I64 a) (hb : I64 b) (hc : I64 c) (hd : I64 d) : evF X1 AP 3 44 [.int .i64 a, .int .i64 b, .int .i64 c, .int .i64 d] S0 = some (.bool (decide (up a * up b < up c * up d)), S0) := by
  have e0 := Int.mul_nonneg (up_nn a) (up_nn b)
  have f0 := Int.mul_nonneg (up_nn c) (up_nn d)
  rw [evF_body (af := af44) rfl rfl rfl]
  have ua : IntKind.u64.wrap (up a) = up a := u64_id (up_nn a) (by have := up_le ha; omega)
  have ub : IntKind.u64.wrap (up b) = up b := u64_id (up_nn b) (by have := up_le hb; omega)
  have uc : IntKind.u64.wrap (up c) = up c := u64_id (up_nn c) (by have := up_le hc; omega)
  have ud : IntKind.u64.wrap (up d) = up d := u64_id (up_nn d) (by have := up_le hd; omega)
  by_cases h1 : up a * up b / 18446744073709551616 < up c * up d / 18446744073709551616
  · simp -implicitDefEqProofs only [af44, evC, evOps, evOper, wanted, evAny, AOp.calls, evOp, XO.ev, XO.lit, setArgs, putD, Tr.get_set, Option.bind_some, Option.map_some, cond_true, cond_false, evArgs, maxI, maxFrom, minI, minFrom, aConv, aBin, aBinE, aEq, eqScal, aUn, aInt, evRes, fin, oneOf, if_true, if_false, callee, evF_eq, withX_some, withX_none, addX, X0, sN0, sN1, sN2, sN3, sN4, reduceCtorEq, Nat.reduceEqDiff, and_self, decide_true, decide_false, beq_true, beq_false, Bool.not_true, Bool.not_false, List.getElem?_cons_zero, List.getElem?_cons_succ, beq_self_eq_true, gt_iff_lt, ble_dec, beq_dec, List.head?_cons, AV.undef, eq_self, ne_eq, not_true_eq_false, not_false_eq_true, Int.reduceLT, Int.reduceLE, Int.reduceToNat, Int.reduceEq, Int.reduceNeg, Nat.reduceAdd, Nat.reduceLT, Nat.reduceLeDiff, Nat.reduceMul, Nat.reduceSub, X1, wd, h1, up_r, ua, ub, uc, ud]
    generalize up a * up b = x at *
    generalize up c * up d = y at *
    rw [decide_eq_true (by omega)]
  · by_cases h : up a * up b / 18446744073709551616 = up c * up d / 18446744073709551616
    · simp -implicitDefEqProofs only [af44, evC, evOps, evOper, wanted, evAny, AOp.calls, evOp, XO.ev, XO.lit, setArgs, putD, Tr.get_set, Option.bind_some, Option.map_some, cond_true, cond_false, evArgs, maxI, maxFrom, minI, minFrom, aConv, aBin, aBinE, aEq, eqScal, aUn, aInt, evRes, fin, oneOf, if_true, if_false, callee, evF_eq, withX_some, withX_none, addX, X0, sN0, sN1, sN2, sN3, sN4, reduceCtorEq, Nat.reduceEqDiff, and_self, decide_true, decide_false, beq_true, beq_false, Bool.not_true, Bool.not_false, List.getElem?_cons_zero, List.getElem?_cons_succ, beq_self_eq_true, gt_iff_lt, ble_dec, beq_dec, List.head?_cons, AV.undef, eq_self, ne_eq, not_true_eq_false, not_false_eq_true, Int.reduceLT, Int.reduceLE, Int.reduceToNat, Int.reduceEq, Int.reduceNeg, Nat.reduceAdd, Nat.reduceLT, Nat.reduceLeDiff, Nat.reduceMul, Nat.reduceSub, X1, wd, h, Int.lt_irrefl, up_r, ua, ub, uc, ud]
      generalize up a * up b = x at *
      generalize up c * up d = y at *
      congr 3
      rw [decide_eq_decide]
      omega
    · simp -implicitDefEqProofs only [af44, evC, evOps, evOper, wanted, evAny, AOp.calls, evOp, XO.ev, XO.lit, setArgs, putD, Tr.get_set, Option.bind_some, Option.map_some, cond_true, cond_false, evArgs, maxI, maxFrom, minI, minFrom, aConv, aBin, aBinE, aEq, eqScal, aUn, aInt, evRes, fin, oneOf, if_true, if_false, callee, evF_eq, withX_some, withX_none, addX, X0, sN0, sN1, sN2, sN3, sN4, reduceCtorEq, Nat.reduceEqDiff, and_self, decide_true, decide_false, beq_true, beq_false, Bool.not_true, Bool.not_false, List.getElem?_cons_zero, List.getElem?_cons_succ, beq_self_eq_true, gt_iff_lt, ble_dec, beq_dec, List.head?_cons, AV.undef, eq_self, ne_eq, not_true_eq_false, not_false_eq_true, Int.reduceLT, Int.reduceLE, Int.reduceToNat, Int.reduceEq, Int.reduceNeg, Nat.reduceAdd, Nat.reduceLT, Nat.reduceLeDiff, Nat.reduceMul, Nat.reduceSub, X1, wd, h1, h, up_r, ua, ub, uc, ud]
      generalize up a * up b = x at *
      generalize up c * up d = y at *
      rw [decide_eq_false (by omega)]
/-! ### Tuples -/
structure Tp where
  o : Int
  r : Int
  v : Int
def tc (t : Tp) : List AV := [.int .u32 t.o, .int .u64 t.r, .int .i64 t.v]
abbrev tpv (t : Tp) : AV := .agg [.int .u32 t.o, .int .u64 t.r, .int .i64 t.v]
structure OkT (t : Tp) : Prop where
  o0 : 0 ≤ t.o
  o1 : t.o ≤ 4294967295
  r0 : 0 ≤ t.r
  r1 : t.r ≤ 18446744073709551615
  v0 : -9223372036854775808 ≤ t.v
  v1 : t.v ≤ 9223372036854775807
/-- A tuple as it may be. -/
def heldT (t : Tp) : Tp := ⟨t.o, mn t.r 1099511627776, up (mn t.v 511)⟩
structure OkH (t : Tp) : Prop where
  o0 : 0 ≤ t.o
  o1 : t.o ≤ 4294967295
  r0 : 0 ≤ t.r
  r1 : t.r ≤ 1099511627776
  v0 : 0 ≤ t.v
  v1 : t.v ≤ 511
theorem OkT.held {t : Tp} (h : OkT t) : OkH (heldT t) := by
  have := h.r0; have := h.r1
  refine ⟨h.o0, h.o1, ?_, ?_, ?_, ?_⟩ <;> simp only [heldT, mn, up] <;> (repeat' split) <;> omega
theorem OkH.ok {t : Tp} (h : OkH t) : OkT t := by
  have := h.r1; have := h.v0; have := h.v1
  exact ⟨h.o0, h.o1, h.r0, by omega, by omega, by omega⟩
theorem OkH.held {t : Tp} (h : OkH t) : heldT t = t := by
  have := h.r1; have := h.v0; have := h.v1
  have e1 : mn t.r 1099511627776 = t.r := by unfold mn; rw [if_neg (by omega)]
  have e2 : mn t.v 511 = t.v := by unfold mn; rw [if_neg (by omega)]
  have e3 : up t.v = t.v := up_pos h.v0
  unfold heldT
  rw [e1, e2, e3]
/-- cmp.Compare, cmp.Or -/
def cmpI (a b : Int) : Int := if a < b then -1 else if b < a then 1 else 0
def orI (a b : Int) : Int := if a = 0 then b else a
def tiesI (a b : Tp) : Int := orI (cmpI b.v a.v) (cmpI a.o b.o)
def leastI (a b : Tp) : Int := orI (cmpI a.r b.r) (tiesI a b)
def sT1 (F : Tp → AV) (l : List AV) : Option AV := match l with | [.agg [.int .u32 o, .int .u64 r, .int .i64 v]] => some (F ⟨o, r, v⟩) | _ => none
def sT2 (F : Tp → Tp → AV) (l : List AV) : Option AV := match l with | [.agg [.int .u32 o, .int .u64 r, .int .i64 v], .agg [.int .u32 o', .int .u64 r', .int .i64 v']] => some (F ⟨o, r, v⟩ ⟨o', r', v'⟩) | _ => none
theorem addX_T1 {P : Program} (hm : P.follows .mixedOrders = true) {X : Nat → List AV → Option AV} {AP : Nat → Option AFunc} (hX : XOk P X) (hAP : APOk P AP) {g : Nat} (hg : EntryOk P g) {F : Tp → AV} (hv : ∀ a, (F a).pure = true) (he : ∀ a, ∃ k S', evF X AP k g [tpv a] S0 = some (F a, S')) : XOk P (addX X g (sT1 F)) := by
  refine addX_ok hm hX hAP hg fun args u h => ?_
  unfold sT1 at h
  split at h
  · rename_i o r v; cases h; exact ⟨rfl, hv _, fun _ => he ⟨o, r, v⟩⟩
  · cases h
theorem addX_T2 {P : Program} (hm : P.follows .mixedOrders = true) {X : Nat → List AV → Option AV} {AP : Nat → Option AFunc} (hX : XOk P X) (hAP : APOk P AP) {g : Nat} (hg : EntryOk P g) {F : Tp → Tp → AV} (hv : ∀ a b, (F a b).pure = true) (he : ∀ a b, ∃ k S', evF X AP k g [tpv a, tpv b] S0 = some (F a b, S')) : XOk P (addX X g (sT2 F)) := by
  refine addX_ok hm hX hAP hg fun args u h => ?_
  unfold sT2 at h
  split at h
  · rename_i o r v o' r' v'; cases h; exact ⟨rfl, hv _ _, fun _ => he ⟨o, r, v⟩ ⟨o', r', v'⟩⟩
  · cases h
theorem n36 (k : Nat) (a : Int) (S : St) : evF X0 AP (k + 1) 36 [.int .u64 a] S = some (.bool false, S) := by
  rw [evF_body (af := af36) rfl rfl rfl]
  simp -implicitDefEqProofs -dsimp (maxSteps := 10000000) only [af36, ops_nil, ops_some, ops_none, oper_none, oper_some, gd_tt, gd_ff, gd_tf, gd_ft, gd_undef, ↓any_op, ↓any_call, ↓any_callV, ↓any_invoke, xo_t, xo_c, args_nil, args_cons, bin_add, bin_sub, bin_mul, bin_quo, bin_rem, bin_and, bin_or, bin_xor, bin_andNot, bin_eql, bin_neq, bin_lss, bin_leq, bin_gtr, bin_geq, bin_shl, bin_shr, bin_bools, bin_strs, bin_ptrs, bin_slices, bin_aggs, ↓Option.bind_some, ↓Option.map_some, ↓cond_true, ↓cond_false, evC, evOp, XO.lit, setArgs, Tr.tabG, Tr.tabS, Tr.tabL, Tr.get_lf, Option.bind_some, Option.map_some, cond_true, cond_false, maxI, maxFrom, minI, minFrom, aConv, aBinE, aEq, eqScal, aUn, evRes, fin, oneOf, if_true, if_false, callee, reduceCtorEq, Nat.reduceEqDiff, and_self, decide_true, decide_false, beq_true, beq_false, Bool.not_true, Bool.not_false, List.getElem?_cons_zero, List.getElem?_cons_succ, beq_self_eq_true, gt_iff_lt, ble_dec, beq_dec, List.head?_cons, AV.undef, eq_self, ne_eq, not_true_eq_false, not_false_eq_true, Int.reduceLT, Int.reduceLE, Int.reduceToNat, Int.reduceEq, Int.reduceNeg, Nat.reduceAdd, Nat.reduceLT, Nat.reduceLeDiff, Nat.reduceMul, Nat.reduceSub]
theorem ev25 (k : Nat) (a b : Int) : evF X0 AP (k + 4) 25 [.int .u64 a, .int .u64 b] S0 = some (.int .i64 (cmpI a b), S0) := by
  rw [evF_body (af := af25) rfl rfl rfl]
  unfold cmpI
  by_cases h : a < b
  · simp -implicitDefEqProofs -dsimp (maxSteps := 10000000) only [af25, n36, ops_nil, ops_some, ops_none, oper_none, oper_some, gd_tt, gd_ff, gd_tf, gd_ft, gd_undef, ↓any_op, ↓any_call, ↓any_callV, ↓any_invoke, xo_t, xo_c, args_nil, args_cons, bin_add, bin_sub, bin_mul, bin_quo, bin_rem, bin_and, bin_or, bin_xor, bin_andNot, bin_eql, bin_neq, bin_lss, bin_leq, bin_gtr, bin_geq, bin_shl, bin_shr, bin_bools, bin_strs, bin_ptrs, bin_slices, bin_aggs, ↓Option.bind_some, ↓Option.map_some, ↓cond_true, ↓cond_false, evC, evOp, XO.lit, setArgs, Tr.tabG, Tr.tabS, Tr.tabL, Tr.get_lf, Option.bind_some, Option.map_some, cond_true, cond_false, maxI, maxFrom, minI, minFrom, aConv, aBinE, aEq, eqScal, aUn, evRes, fin, oneOf, if_true, if_false, callee, reduceCtorEq, Nat.reduceEqDiff, and_self, decide_true, decide_false, beq_true, beq_false, Bool.not_true, Bool.not_false, List.getElem?_cons_zero, List.getElem?_cons_succ, beq_self_eq_true, gt_iff_lt, ble_dec, beq_dec, List.head?_cons, AV.undef, eq_self, ne_eq, not_true_eq_false, not_false_eq_true, Int.reduceLT, Int.reduceLE, Int.reduceToNat, Int.reduceEq, Int.reduceNeg, Nat.reduceAdd, Nat.reduceLT, Nat.reduceLeDiff, Nat.reduceMul, Nat.reduceSub, h]
  · by_cases h' : b < a
    · simp -implicitDefEqProofs -dsimp (maxSteps := 10000000) only [af25, n36, ops_nil, ops_some, ops_none, oper_none, oper_some, gd_tt, gd_ff, gd_tf, gd_ft, gd_undef, ↓any_op, ↓any_call, ↓any_callV, ↓any_invoke, xo_t, xo_c, args_nil, args_cons, bin_add, bin_sub, bin_mul, bin_quo, bin_rem, bin_and, bin_or, bin_xor, bin_andNot, bin_eql, bin_neq, bin_lss, bin_leq, bin_gtr, bin_geq, bin_shl, bin_shr, bin_bools, bin_strs, bin_ptrs, bin_slices, bin_aggs, ↓Option.bind_some, ↓Option.map_some, ↓cond_true, ↓cond_false, evC, evOp, XO.lit, setArgs, Tr.tabG, Tr.tabS, Tr.tabL, Tr.get_lf, Option.bind_some, Option.map_some, cond_true, cond_false, maxI, maxFrom, minI, minFrom, aConv, aBinE, aEq, eqScal, aUn, evRes, fin, oneOf, if_true, if_false, callee, reduceCtorEq, Nat.reduceEqDiff, and_self, decide_true, decide_false, beq_true, beq_false, Bool.not_true, Bool.not_false, List.getElem?_cons_zero, List.getElem?_cons_succ, beq_self_eq_true, gt_iff_lt, ble_dec, beq_dec, List.head?_cons, AV.undef, eq_self, ne_eq, not_true_eq_false, not_false_eq_true, Int.reduceLT, Int.reduceLE, Int.reduceToNat, Int.reduceEq, Int.reduceNeg, Nat.reduceAdd, Nat.reduceLT, Nat.reduceLeDiff, Nat.reduceMul, Nat.reduceSub, h, h']
    · simp -implicitDefEqProofs -dsimp (maxSteps := 10000000) only [af25, n36, ops_nil, ops_some, ops_none, oper_none, oper_some, gd_tt, gd_ff, gd_tf, gd_ft, gd_undef, ↓any_op, ↓any_call, ↓any_callV, ↓any_invoke, xo_t, xo_c, args_nil, args_cons, bin_add, bin_sub, bin_mul, bin_quo, bin_rem, bin_and, bin_or, bin_xor, bin_andNot, bin_eql, bin_neq, bin_lss, bin_leq, bin_gtr, bin_geq, bin_shl, bin_shr, bin_bools, bin_strs, bin_ptrs, bin_slices, bin_aggs, ↓Option.bind_some, ↓Option.map_some, ↓cond_true, ↓cond_false, evC, evOp, XO.lit, setArgs, Tr.tabG, Tr.tabS, Tr.tabL, Tr.get_lf, Option.bind_some, Option.map_some, cond_true, cond_false, maxI, maxFrom, minI, minFrom, aConv, aBinE, aEq, eqScal, aUn, evRes, fin, oneOf, if_true, if_false, callee, reduceCtorEq, Nat.reduceEqDiff, and_self, decide_true, decide_false, beq_true, beq_false, Bool.not_true, Bool.not_false, List.getElem?_cons_zero, List.getElem?_cons_succ, beq_self_eq_true, gt_iff_lt, ble_dec, beq_dec, List.head?_cons, AV.undef, eq_self, ne_eq, not_true_eq_false, not_false_eq_true, Int.reduceLT, Int.reduceLE, Int.reduceToNat, Int.reduceEq, Int.reduceNeg, Nat.reduceAdd, Nat.reduceLT, Nat.reduceLeDiff, Nat.reduceMul, Nat.reduceSub, h, h']
theorem n46 (k : Nat) (a : Int) (S : St) : evF X0 AP (k + 1) 46 [.int .i64 a] S = some (.bool false, S) := by
  rw [evF_body (af := af46) rfl rfl rfl]
  simp -implicitDefEqProofs -dsimp (maxSteps := 10000000) only [af46, ops_nil, ops_some, ops_none, oper_none, oper_some, gd_tt, gd_ff, gd_tf, gd_ft, gd_undef, ↓any_op, ↓any_call, ↓any_callV, ↓any_invoke, xo_t, xo_c, args_nil, args_cons, bin_add, bin_sub, bin_mul, bin_quo, bin_rem, bin_and, bin_or, bin_xor, bin_andNot, bin_eql, bin_neq, bin_lss, bin_leq, bin_gtr, bin_geq, bin_shl, bin_shr, bin_bools, bin_strs, bin_ptrs, bin_slices, bin_aggs, ↓Option.bind_some, ↓Option.map_some, ↓cond_true, ↓cond_false, evC, evOp, XO.lit, setArgs, Tr.tabG, Tr.tabS, Tr.tabL, Tr.get_lf, Option.bind_some, Option.map_some, cond_true, cond_false, maxI, maxFrom, minI, minFrom, aConv, aBinE, aEq, eqScal, aUn, evRes, fin, oneOf, if_true, if_false, callee, reduceCtorEq, Nat.reduceEqDiff, and_self, decide_true, decide_false, beq_true, beq_false, Bool.not_true, Bool.not_false, List.getElem?_cons_zero, List.getElem?_cons_succ, beq_self_eq_true, gt_iff_lt, ble_dec, beq_dec, List.head?_cons, AV.undef, eq_self, ne_eq, not_true_eq_false, not_false_eq_true, Int.reduceLT, Int.reduceLE, Int.reduceToNat, Int.reduceEq, Int.reduceNeg, Nat.reduceAdd, Nat.reduceLT, Nat.reduceLeDiff, Nat.reduceMul, Nat.reduceSub]
theorem ev37 (k : Nat) (a b : Int) : evF X0 AP (k + 4) 37 [.int .i64 a, .int .i64 b] S0 = some (.int .i64 (cmpI a b), S0) := by
  rw [evF_body (af := af37) rfl rfl rfl]
  unfold cmpI
  by_cases h : a < b
  · simp -implicitDefEqProofs -dsimp (maxSteps := 10000000) only [af37, n46, ops_nil, ops_some, ops_none, oper_none, oper_some, gd_tt, gd_ff, gd_tf, gd_ft, gd_undef, ↓any_op, ↓any_call, ↓any_callV, ↓any_invoke, xo_t, xo_c, args_nil, args_cons, bin_add, bin_sub, bin_mul, bin_quo, bin_rem, bin_and, bin_or, bin_xor, bin_andNot, bin_eql, bin_neq, bin_lss, bin_leq, bin_gtr, bin_geq, bin_shl, bin_shr, bin_bools, bin_strs, bin_ptrs, bin_slices, bin_aggs, ↓Option.bind_some, ↓Option.map_some, ↓cond_true, ↓cond_false, evC, evOp, XO.lit, setArgs, Tr.tabG, Tr.tabS, Tr.tabL, Tr.get_lf, Option.bind_some, Option.map_some, cond_true, cond_false, maxI, maxFrom, minI, minFrom, aConv, aBinE, aEq, eqScal, aUn, evRes, fin, oneOf, if_true, if_false, callee, reduceCtorEq, Nat.reduceEqDiff, and_self, decide_true, decide_false, beq_true, beq_false, Bool.not_true, Bool.not_false, List.getElem?_cons_zero, List.getElem?_cons_succ, beq_self_eq_true, gt_iff_lt, ble_dec, beq_dec, List.head?_cons, AV.undef, eq_self, ne_eq, not_true_eq_false, not_false_eq_true, Int.reduceLT, Int.reduceLE, Int.reduceToNat, Int.reduceEq, Int.reduceNeg, Nat.reduceAdd, Nat.reduceLT, Nat.reduceLeDiff, Nat.reduceMul, Nat.reduceSub, h]
  · by_cases h' : b < a
    · simp -implicitDefEqProofs -dsimp (maxSteps := 10000000) only [af37, n46, ops_nil, ops_some, ops_none, oper_none, oper_some, gd_tt, gd_ff, gd_tf, gd_ft, gd_undef, ↓any_op, ↓any_call, ↓any_callV, ↓any_invoke, xo_t, xo_c, args_nil, args_cons, bin_add, bin_sub, bin_mul, bin_quo, bin_rem, bin_and, bin_or, bin_xor, bin_andNot, bin_eql, bin_neq, bin_lss, bin_leq, bin_gtr, bin_geq, bin_shl, bin_shr, bin_bools, bin_strs, bin_ptrs, bin_slices, bin_aggs, ↓Option.bind_some, ↓Option.map_some, ↓cond_true, ↓cond_false, evC, evOp, XO.lit, setArgs, Tr.tabG, Tr.tabS, Tr.tabL, Tr.get_lf, Option.bind_some, Option.map_some, cond_true, cond_false, maxI, maxFrom, minI, minFrom, aConv, aBinE, aEq, eqScal, aUn, evRes, fin, oneOf, if_true, if_false, callee, reduceCtorEq, Nat.reduceEqDiff, and_self, decide_true, decide_false, beq_true, beq_false, Bool.not_true, Bool.not_false, List.getElem?_cons_zero, List.getElem?_cons_succ, beq_self_eq_true, gt_iff_lt, ble_dec, beq_dec, List.head?_cons, AV.undef, eq_self, ne_eq, not_true_eq_false, not_false_eq_true, Int.reduceLT, Int.reduceLE, Int.reduceToNat, Int.reduceEq, Int.reduceNeg, Nat.reduceAdd, Nat.reduceLT, Nat.reduceLeDiff, Nat.reduceMul, Nat.reduceSub, h, h']
    · simp -implicitDefEqProofs -dsimp (maxSteps := 10000000) only [af37, n46, ops_nil, ops_some, ops_none, oper_none, oper_some, gd_tt, gd_ff, gd_tf, gd_ft, gd_undef, ↓any_op, ↓any_call, ↓any_callV, ↓any_invoke, xo_t, xo_c, args_nil, args_cons, bin_add, bin_sub, bin_mul, bin_quo, bin_rem, bin_and, bin_or, bin_xor, bin_andNot, bin_eql, bin_neq, bin_lss, bin_leq, bin_gtr, bin_geq, bin_shl, bin_shr, bin_bools, bin_strs, bin_ptrs, bin_slices, bin_aggs, ↓Option.bind_some, ↓Option.map_some, ↓cond_true, ↓cond_false, evC, evOp, XO.lit, setArgs, Tr.tabG, Tr.tabS, Tr.tabL, Tr.get_lf, Option.bind_some, Option.map_some, cond_true, cond_false, maxI, maxFrom, minI, minFrom, aConv, aBinE, aEq, eqScal, aUn, evRes, fin, oneOf, if_true, if_false, callee, reduceCtorEq, Nat.reduceEqDiff, and_self, decide_true, decide_false, beq_true, beq_false, Bool.not_true, Bool.not_false, List.getElem?_cons_zero, List.getElem?_cons_succ, beq_self_eq_true, gt_iff_lt, ble_dec, beq_dec, List.head?_cons, AV.undef, eq_self, ne_eq, not_true_eq_false, not_false_eq_true, Int.reduceLT, Int.reduceLE, Int.reduceToNat, Int.reduceEq, Int.reduceNeg, Nat.reduceAdd, Nat.reduceLT, Nat.reduceLeDiff, Nat.reduceMul, Nat.reduceSub, h, h']
theorem n47 (k : Nat) (a : Int) (S : St) : evF X0 AP (k + 1) 47 [.int .u32 a] S = some (.bool false, S) := by
  rw [evF_body (af := af47) rfl rfl rfl]
  simp -implicitDefEqProofs -dsimp (maxSteps := 10000000) only [af47, ops_nil, ops_some, ops_none, oper_none, oper_some, gd_tt, gd_ff, gd_tf, gd_ft, gd_undef, ↓any_op, ↓any_call, ↓any_callV, ↓any_invoke, xo_t, xo_c, args_nil, args_cons, bin_add, bin_sub, bin_mul, bin_quo, bin_rem, bin_and, bin_or, bin_xor, bin_andNot, bin_eql, bin_neq, bin_lss, bin_leq, bin_gtr, bin_geq, bin_shl, bin_shr, bin_bools, bin_strs, bin_ptrs, bin_slices, bin_aggs, ↓Option.bind_some, ↓Option.map_some, ↓cond_true, ↓cond_false, evC, evOp, XO.lit, setArgs, Tr.tabG, Tr.tabS, Tr.tabL, Tr.get_lf, Option.bind_some, Option.map_some, cond_true, cond_false, maxI, maxFrom, minI, minFrom, aConv, aBinE, aEq, eqScal, aUn, evRes, fin, oneOf, if_true, if_false, callee, reduceCtorEq, Nat.reduceEqDiff, and_self, decide_true, decide_false, beq_true, beq_false, Bool.not_true, Bool.not_false, List.getElem?_cons_zero, List.getElem?_cons_succ, beq_self_eq_true, gt_iff_lt, ble_dec, beq_dec, List.head?_cons, AV.undef, eq_self, ne_eq, not_true_eq_false, not_false_eq_true, Int.reduceLT, Int.reduceLE, Int.reduceToNat, Int.reduceEq, Int.reduceNeg, Nat.reduceAdd, Nat.reduceLT, Nat.reduceLeDiff, Nat.reduceMul, Nat.reduceSub]
theorem ev38 (k : Nat) (a b : Int) : evF X0 AP (k + 4) 38 [.int .u32 a, .int .u32 b] S0 = some (.int .i64 (cmpI a b), S0) := by
  rw [evF_body (af := af38) rfl rfl rfl]
  unfold cmpI
  by_cases h : a < b
  · simp -implicitDefEqProofs -dsimp (maxSteps := 10000000) only [af38, n47, ops_nil, ops_some, ops_none, oper_none, oper_some, gd_tt, gd_ff, gd_tf, gd_ft, gd_undef, ↓any_op, ↓any_call, ↓any_callV, ↓any_invoke, xo_t, xo_c, args_nil, args_cons, bin_add, bin_sub, bin_mul, bin_quo, bin_rem, bin_and, bin_or, bin_xor, bin_andNot, bin_eql, bin_neq, bin_lss, bin_leq, bin_gtr, bin_geq, bin_shl, bin_shr, bin_bools, bin_strs, bin_ptrs, bin_slices, bin_aggs, ↓Option.bind_some, ↓Option.map_some, ↓cond_true, ↓cond_false, evC, evOp, XO.lit, setArgs, Tr.tabG, Tr.tabS, Tr.tabL, Tr.get_lf, Option.bind_some, Option.map_some, cond_true, cond_false, maxI, maxFrom, minI, minFrom, aConv, aBinE, aEq, eqScal, aUn, evRes, fin, oneOf, if_true, if_false, callee, reduceCtorEq, Nat.reduceEqDiff, and_self, decide_true, decide_false, beq_true, beq_false, Bool.not_true, Bool.not_false, List.getElem?_cons_zero, List.getElem?_cons_succ, beq_self_eq_true, gt_iff_lt, ble_dec, beq_dec, List.head?_cons, AV.undef, eq_self, ne_eq, not_true_eq_false, not_false_eq_true, Int.reduceLT, Int.reduceLE, Int.reduceToNat, Int.reduceEq, Int.reduceNeg, Nat.reduceAdd, Nat.reduceLT, Nat.reduceLeDiff, Nat.reduceMul, Nat.reduceSub, h]
  · by_cases h' : b < a
    · simp -implicitDefEqProofs -dsimp (maxSteps := 10000000) only [af38, n47, ops_nil, ops_some, ops_none, oper_none, oper_some, gd_tt, gd_ff, gd_tf, gd_ft, gd_undef, ↓any_op, ↓any_call, ↓any_callV, ↓any_invoke, xo_t, xo_c, args_nil, args_cons, bin_add, bin_sub, bin_mul, bin_quo, bin_rem, bin_and, bin_or, bin_xor, bin_andNot, bin_eql, bin_neq, bin_lss, bin_leq, bin_gtr, bin_geq, bin_shl, bin_shr, bin_bools, bin_strs, bin_ptrs, bin_slices, bin_aggs, ↓Option.bind_some, ↓Option.map_some, ↓cond_true, ↓cond_false, evC, evOp, XO.lit, setArgs, Tr.tabG, Tr.tabS, Tr.tabL, Tr.get_lf, Option.bind_some, Option.map_some, cond_true, cond_false, maxI, maxFrom, minI, minFrom, aConv, aBinE, aEq, eqScal, aUn, evRes, fin, oneOf, if_true, if_false, callee, reduceCtorEq, Nat.reduceEqDiff, and_self, decide_true, decide_false, beq_true, beq_false, Bool.not_true, Bool.not_false, List.getElem?_cons_zero, List.getElem?_cons_succ, beq_self_eq_true, gt_iff_lt, ble_dec, beq_dec, List.head?_cons, AV.undef, eq_self, ne_eq, not_true_eq_false, not_false_eq_true, Int.reduceLT, Int.reduceLE, Int.reduceToNat, Int.reduceEq, Int.reduceNeg, Nat.reduceAdd, Nat.reduceLT, Nat.reduceLeDiff, Nat.reduceMul, Nat.reduceSub, h, h']
    · simp -implicitDefEqProofs -dsimp (maxSteps := 10000000) only [af38, n47, ops_nil, ops_some, ops_none, oper_none, oper_some, gd_tt, gd_ff, gd_tf, gd_ft, gd_undef, ↓any_op, ↓any_call, ↓any_callV, ↓any_invoke, xo_t, xo_c, args_nil, args_cons, bin_add, bin_sub, bin_mul, bin_quo, bin_rem, bin_and, bin_or, bin_xor, bin_andNot, bin_eql, bin_neq, bin_lss, bin_leq, bin_gtr, bin_geq, bin_shl, bin_shr, bin_bools, bin_strs, bin_ptrs, bin_slices, bin_aggs, ↓Option.bind_some, ↓Option.map_some, ↓cond_true, ↓cond_false, evC, evOp, XO.lit, setArgs, Tr.tabG, Tr.tabS, Tr.tabL, Tr.get_lf, Option.bind_some, Option.map_some, cond_true, cond_false, maxI, maxFrom, minI, minFrom, aConv, aBinE, aEq, eqScal, aUn, evRes, fin, oneOf, if_true, if_false, callee, reduceCtorEq, Nat.reduceEqDiff, and_self, decide_true, decide_false, beq_true, beq_false, Bool.not_true, Bool.not_false, List.getElem?_cons_zero, List.getElem?_cons_succ, beq_self_eq_true, gt_iff_lt, ble_dec, beq_dec, List.head?_cons, AV.undef, eq_self, ne_eq, not_true_eq_false, not_false_eq_true, Int.reduceLT, Int.reduceLE, Int.reduceToNat, Int.reduceEq, Int.reduceNeg, Nat.reduceAdd, Nat.reduceLT, Nat.reduceLeDiff, Nat.reduceMul, Nat.reduceSub, h, h']
theorem ne1 (n : Nat) : (n = n + 1) = False := by simp
theorem ne1' (n : Nat) : (n + 1 = n) = False := by simp
theorem ev35 (k : Nat) (S : St) (t : Tp) : ∃ S', evF X0 AP (k + 3) 35 [tpv t] S = some (tpv (heldT t), S') := by
  rw [evF_body (af := af35) rfl rfl rfl]
  exact ⟨_, by
    simp -implicitDefEqProofs -dsimp (maxSteps := 10000000) only [af35, ops_nil, ops_some, ops_none, oper_none, oper_some, gd_tt, gd_ff, gd_tf, gd_ft, gd_undef, ↓any_op, ↓any_call, ↓any_callV, ↓any_invoke, xo_t, xo_c, args_nil, args_cons, bin_add, bin_sub, bin_mul, bin_quo, bin_rem, bin_and, bin_or, bin_xor, bin_andNot, bin_eql, bin_neq, bin_lss, bin_leq, bin_gtr, bin_geq, bin_shl, bin_shr, bin_bools, bin_strs, bin_ptrs, bin_slices, bin_aggs, ↓Option.bind_some, ↓Option.map_some, ↓cond_true, ↓cond_false, evC, evOp, XO.lit, setArgs, Tr.tabG, Tr.tabS, Tr.tabL, Tr.get_lf, Option.bind_some, Option.map_some, cond_true, cond_false, maxI, maxFrom, minI, minFrom, aConv, aBinE, aEq, eqScal, aUn, evRes, fin, oneOf, if_true, if_false, callee, reduceCtorEq, Nat.reduceEqDiff, and_self, decide_true, decide_false, beq_true, beq_false, Bool.not_true, Bool.not_false, List.getElem?_cons_zero, List.getElem?_cons_succ, beq_self_eq_true, gt_iff_lt, ble_dec, beq_dec, List.head?_cons, AV.undef, eq_self, ne_eq, not_true_eq_false, not_false_eq_true, Int.reduceLT, Int.reduceLE, Int.reduceToNat, Int.reduceEq, Int.reduceNeg, Nat.reduceAdd, Nat.reduceLT, Nat.reduceLeDiff, Nat.reduceMul, Nat.reduceSub, ↓evDraw_nil, bir, putD, evDraw, trace, List.all_cons, List.all_nil, chk, stAt, again, sameV, sameL, sameA, AV.undef, Bool.and_self, Bool.and_true, decide_eq_true_eq, List.getElem?_nil, AV.cells, AV.tup, Bool.true_and, true_and, and_true, List.drop_nil, List.append_nil, rd_put, rd_alloc, rdO, St.get_put, St.get_alloc, St.next_put, St.next_alloc, St.wr, Bool.and_self, Bool.and_true, List.length_cons, List.length_nil, List.take_succ_cons, List.take_zero, List.drop_succ_cons, List.drop_zero, List.cons_append, List.nil_append, Nat.zero_add, Nat.add_zero, Nat.reduceMul, aFill, evParts, rep, List.replicate_succ, List.replicate_zero, List.flatten_cons, List.flatten_nil, List.append_nil, newSl, newVar, ne1, ne1']
    exact rfl⟩
theorem ev43 (k : Nat) (S : St) (t : Tp) : ∃ S', evF X0 AP (k + 3) 43 [tpv t] S = some (tpv (heldT t), S') := by
  rw [evF_body (af := af43) rfl rfl rfl]
  exact ⟨_, by
    simp -implicitDefEqProofs -dsimp (maxSteps := 10000000) only [af43, ops_nil, ops_some, ops_none, oper_none, oper_some, gd_tt, gd_ff, gd_tf, gd_ft, gd_undef, ↓any_op, ↓any_call, ↓any_callV, ↓any_invoke, xo_t, xo_c, args_nil, args_cons, bin_add, bin_sub, bin_mul, bin_quo, bin_rem, bin_and, bin_or, bin_xor, bin_andNot, bin_eql, bin_neq, bin_lss, bin_leq, bin_gtr, bin_geq, bin_shl, bin_shr, bin_bools, bin_strs, bin_ptrs, bin_slices, bin_aggs, ↓Option.bind_some, ↓Option.map_some, ↓cond_true, ↓cond_false, evC, evOp, XO.lit, setArgs, Tr.tabG, Tr.tabS, Tr.tabL, Tr.get_lf, Option.bind_some, Option.map_some, cond_true, cond_false, maxI, maxFrom, minI, minFrom, aConv, aBinE, aEq, eqScal, aUn, evRes, fin, oneOf, if_true, if_false, callee, reduceCtorEq, Nat.reduceEqDiff, and_self, decide_true, decide_false, beq_true, beq_false, Bool.not_true, Bool.not_false, List.getElem?_cons_zero, List.getElem?_cons_succ, beq_self_eq_true, gt_iff_lt, ble_dec, beq_dec, List.head?_cons, AV.undef, eq_self, ne_eq, not_true_eq_false, not_false_eq_true, Int.reduceLT, Int.reduceLE, Int.reduceToNat, Int.reduceEq, Int.reduceNeg, Nat.reduceAdd, Nat.reduceLT, Nat.reduceLeDiff, Nat.reduceMul, Nat.reduceSub, ↓evDraw_nil, bir, putD, evDraw, trace, List.all_cons, List.all_nil, chk, stAt, again, sameV, sameL, sameA, AV.undef, Bool.and_self, Bool.and_true, decide_eq_true_eq, List.getElem?_nil, AV.cells, AV.tup, Bool.true_and, true_and, and_true, List.drop_nil, List.append_nil, rd_put, rd_alloc, rdO, St.get_put, St.get_alloc, St.next_put, St.next_alloc, St.wr, Bool.and_self, Bool.and_true, List.length_cons, List.length_nil, List.take_succ_cons, List.take_zero, List.drop_succ_cons, List.drop_zero, List.cons_append, List.nil_append, Nat.zero_add, Nat.add_zero, Nat.reduceMul, aFill, evParts, rep, List.replicate_succ, List.replicate_zero, List.flatten_cons, List.flatten_nil, List.append_nil, newSl, newVar, up_r, ne1, ne1']
    exact rfl⟩
def XA1 := addX X0 25 (sN2 .u64 .u64 fun a b => .int .i64 (cmpI a b))
def XA2 := addX XA1 37 (sN2 .i64 .i64 fun a b => .int .i64 (cmpI a b))
def XA := addX XA2 38 (sN2 .u32 .u32 fun a b => .int .i64 (cmpI a b))
theorem okA1 : XOk Try.prog XA1 := addX_N2 mixed (X0_ok _) apOk (entry_of apOk (af := af25) rfl) (fun _ _ => rfl) fun a b _ _ => ⟨4, S0, ev25 0 a b⟩
theorem addX_any {X Y : Nat → List AV → Option AV} (hX : XOk Try.prog X) (hY : XOk Try.prog Y) {g : Nat} {s : List AV → Option AV} (h : XOk Try.prog (addX Y g s)) : XOk Try.prog (addX X g s) := by
  intro f args v hv
  unfold addX at hv
  by_cases hf : f = g
  · rw [if_pos hf] at hv
    exact h f args v (by unfold addX; rw [if_pos hf]; exact hv)
  · rw [if_neg hf] at hv
    exact hX f args v hv
theorem okA2 : XOk Try.prog XA2 := addX_any okA1 (X0_ok _) (addX_N2 mixed (X0_ok _) apOk (entry_of apOk (af := af37) rfl) (fun _ _ => rfl) fun a b _ _ => ⟨4, S0, ev37 0 a b⟩)
theorem okA : XOk Try.prog XA := addX_any okA2 (X0_ok _) (addX_N2 mixed (X0_ok _) apOk (entry_of apOk (af := af38) rfl) (fun _ _ => rfl) fun a b _ _ => ⟨4, S0, ev38 0 a b⟩)
end Go.Proofs.YtkbooepiomobdaaA
