/- Chapter 7: a layer of values. -/
import Derived.Test.YtbfkhnpginlpdaaVaF
set_option linter.unusedVariables false
set_option linter.unusedSimpArgs false
set_option maxRecDepth 10000
namespace Go.Proofs.YtbfkhnpginlpdaaA
open Go.RowKit
attribute [local congr] bind_congr1 map_congr1 cond_congr1 withX_congr after_congr br_congr gd_congr

def zL : Ly := ⟨[], 0, 0⟩
def layP (s : List Nat) (n h : Int) : Ly × Int := if n < 0 ∨ 4294967295 < n then (zL, 1) else if right s = true ∧ 1 ≤ h ∧ h ≤ 8192 then (⟨s, n, h⟩, 0) else (zL, 12)
section
variable {S : St}
set_option maxHeartbeats 4000000 in
/-- the document's layer -/
theorem T16 (k : Nat) {s : List Nat} {n h : Int} (hs : s.length ≤ 9223372036854775807) :
    ∃ S', evF Y AP (k + 3) 16 [.str s, .int .i64 n, .int .i64 h] S = some (.tuple [.agg (lyc (layP s n h).1), .int .i64 (layP s n h).2], S') ∧ Ext S S' := by
  obtain ⟨A, hA⟩ : ∃ A, S.alloc (.cells [.str [], .int .u32 0, .int .i64 0] 0 0 true) = A := ⟨_, rfl⟩
  have eA : Ext S A := by rw [← hA]; exact .alloc _ _
  have gA : A.get S.next = some (.cells [.str [], .int .u32 0, .int .i64 0] 0 0 true) := by rw [← hA, St.get_alloc, if_pos rfl]
  have x : ∀ z, Ext S (A.put S.next z) := fun z => eA.then_put (Nat.le_refl _) _
  have q := y22 (k + 1) A hs
  unfold layP
  by_cases c1 : n < 0
  · rw [if_pos (.inl c1)]
    refine ⟨A.put S.next (.cells (lyc zL) 0 0 true), ?_, x _⟩
    rw [evF_body (af := af16) rfl rfl rfl]
    simp -implicitDefEqProofs -dsimp (maxSteps := 10000000) only [af16, kC, ↓kQ, ↓Option.bind_some, ↓Option.map_some, ↓cond_true, ↓cond_false, evC, evOp, XO.lit, setArgs, Tr.tabG, Tr.tabS, Tr.tabL, Tr.get_lf, Option.bind_some, Option.map_some, cond_true, cond_false, maxI, maxFrom, minI, minFrom, aConv, aBinE, aEq, eqScal, aUn, evRes, fin, oneOf, if_true, if_false, callee, reduceCtorEq, Nat.reduceEqDiff, List.getElem?_cons_zero, List.getElem?_cons_succ, beq_self_eq_true, gt_iff_lt, List.head?_cons, AV.undef, eq_self, ne_eq, Int.reduceLT, Int.reduceLE, Int.reduceToNat, Int.reduceEq, Int.reduceNeg, Nat.reduceAdd, Nat.reduceLT, Nat.reduceLeDiff, Nat.reduceMul, Nat.reduceSub, ↓evDraw_nil, bir, putD, evDraw, trace, List.all_cons, List.all_nil, chk, stAt, again, sameV, sameL, sameA, AV.undef, Bool.and_self, Bool.and_true, decide_eq_true_eq, List.getElem?_nil, kM, AV.cells, AV.tup, List.drop_nil, List.append_nil, rdO, St.wr, List.length_cons, List.length_nil, List.take_succ_cons, List.take_zero, List.drop_succ_cons, List.drop_zero, List.cons_append, List.nil_append, Nat.reduceMul, aFill, evParts, rep, List.replicate_succ, List.replicate_zero, List.flatten_cons, List.flatten_nil, List.append_nil, newSl, newVar, hA, c1, gA]
    rfl
  by_cases c2 : 4294967295 < n
  · rw [if_pos (.inr c2)]
    refine ⟨A.put S.next (.cells (lyc zL) 0 0 true), ?_, x _⟩
    rw [evF_body (af := af16) rfl rfl rfl]
    simp -implicitDefEqProofs -dsimp (maxSteps := 10000000) only [af16, kC, ↓kQ, ↓Option.bind_some, ↓Option.map_some, ↓cond_true, ↓cond_false, evC, evOp, XO.lit, setArgs, Tr.tabG, Tr.tabS, Tr.tabL, Tr.get_lf, Option.bind_some, Option.map_some, cond_true, cond_false, maxI, maxFrom, minI, minFrom, aConv, aBinE, aEq, eqScal, aUn, evRes, fin, oneOf, if_true, if_false, callee, reduceCtorEq, Nat.reduceEqDiff, List.getElem?_cons_zero, List.getElem?_cons_succ, beq_self_eq_true, gt_iff_lt, List.head?_cons, AV.undef, eq_self, ne_eq, Int.reduceLT, Int.reduceLE, Int.reduceToNat, Int.reduceEq, Int.reduceNeg, Nat.reduceAdd, Nat.reduceLT, Nat.reduceLeDiff, Nat.reduceMul, Nat.reduceSub, ↓evDraw_nil, bir, putD, evDraw, trace, List.all_cons, List.all_nil, chk, stAt, again, sameV, sameL, sameA, AV.undef, Bool.and_self, Bool.and_true, decide_eq_true_eq, List.getElem?_nil, kM, AV.cells, AV.tup, List.drop_nil, List.append_nil, rdO, St.wr, List.length_cons, List.length_nil, List.take_succ_cons, List.take_zero, List.drop_succ_cons, List.drop_zero, List.cons_append, List.nil_append, Nat.reduceMul, aFill, evParts, rep, List.replicate_succ, List.replicate_zero, List.flatten_cons, List.flatten_nil, List.append_nil, newSl, newVar, hA, c1, c2, gA]
    rfl
  rw [if_neg (by omega)]
  have wn : IntKind.u32.wrap n = n := u32_id (by omega) (by omega)
  cases hr : right s with
  | false =>
    rw [hr] at q
    rw [if_neg (fun h => by cases h.1)]
    refine ⟨A.put S.next (.cells (lyc zL) 0 0 true), ?_, x _⟩
    rw [evF_body (af := af16) rfl rfl rfl]
    simp -implicitDefEqProofs -dsimp (maxSteps := 10000000) only [af16, kC, ↓kQ, ↓Option.bind_some, ↓Option.map_some, ↓cond_true, ↓cond_false, evC, evOp, XO.lit, setArgs, Tr.tabG, Tr.tabS, Tr.tabL, Tr.get_lf, Option.bind_some, Option.map_some, cond_true, cond_false, maxI, maxFrom, minI, minFrom, aConv, aBinE, aEq, eqScal, aUn, evRes, fin, oneOf, if_true, if_false, callee, reduceCtorEq, Nat.reduceEqDiff, List.getElem?_cons_zero, List.getElem?_cons_succ, beq_self_eq_true, gt_iff_lt, List.head?_cons, AV.undef, eq_self, ne_eq, Int.reduceLT, Int.reduceLE, Int.reduceToNat, Int.reduceEq, Int.reduceNeg, Nat.reduceAdd, Nat.reduceLT, Nat.reduceLeDiff, Nat.reduceMul, Nat.reduceSub, ↓evDraw_nil, bir, putD, evDraw, trace, List.all_cons, List.all_nil, chk, stAt, again, sameV, sameL, sameA, AV.undef, Bool.and_self, Bool.and_true, decide_eq_true_eq, List.getElem?_nil, kM, AV.cells, AV.tup, List.drop_nil, List.append_nil, rdO, St.wr, List.length_cons, List.length_nil, List.take_succ_cons, List.take_zero, List.drop_succ_cons, List.drop_zero, List.cons_append, List.nil_append, Nat.reduceMul, aFill, evParts, rep, List.replicate_succ, List.replicate_zero, List.flatten_cons, List.flatten_nil, List.append_nil, newSl, newVar, hA, c1, c2, q, gA]
    rfl
  | true =>
    rw [hr] at q
    by_cases c3 : h < 1
    · rw [if_neg (by omega)]
      refine ⟨A.put S.next (.cells (lyc zL) 0 0 true), ?_, x _⟩
      rw [evF_body (af := af16) rfl rfl rfl]
      simp -implicitDefEqProofs -dsimp (maxSteps := 10000000) only [af16, kC, ↓kQ, ↓Option.bind_some, ↓Option.map_some, ↓cond_true, ↓cond_false, evC, evOp, XO.lit, setArgs, Tr.tabG, Tr.tabS, Tr.tabL, Tr.get_lf, Option.bind_some, Option.map_some, cond_true, cond_false, maxI, maxFrom, minI, minFrom, aConv, aBinE, aEq, eqScal, aUn, evRes, fin, oneOf, if_true, if_false, callee, reduceCtorEq, Nat.reduceEqDiff, List.getElem?_cons_zero, List.getElem?_cons_succ, beq_self_eq_true, gt_iff_lt, List.head?_cons, AV.undef, eq_self, ne_eq, Int.reduceLT, Int.reduceLE, Int.reduceToNat, Int.reduceEq, Int.reduceNeg, Nat.reduceAdd, Nat.reduceLT, Nat.reduceLeDiff, Nat.reduceMul, Nat.reduceSub, ↓evDraw_nil, bir, putD, evDraw, trace, List.all_cons, List.all_nil, chk, stAt, again, sameV, sameL, sameA, AV.undef, Bool.and_self, Bool.and_true, decide_eq_true_eq, List.getElem?_nil, kM, AV.cells, AV.tup, List.drop_nil, List.append_nil, rdO, St.wr, List.length_cons, List.length_nil, List.take_succ_cons, List.take_zero, List.drop_succ_cons, List.drop_zero, List.cons_append, List.nil_append, Nat.reduceMul, aFill, evParts, rep, List.replicate_succ, List.replicate_zero, List.flatten_cons, List.flatten_nil, List.append_nil, newSl, newVar, hA, c1, c2, q, c3, gA]
      rfl
    by_cases c4 : 8192 < h
    · rw [if_neg (by omega)]
      refine ⟨A.put S.next (.cells (lyc zL) 0 0 true), ?_, x _⟩
      rw [evF_body (af := af16) rfl rfl rfl]
      simp -implicitDefEqProofs -dsimp (maxSteps := 10000000) only [af16, kC, ↓kQ, ↓Option.bind_some, ↓Option.map_some, ↓cond_true, ↓cond_false, evC, evOp, XO.lit, setArgs, Tr.tabG, Tr.tabS, Tr.tabL, Tr.get_lf, Option.bind_some, Option.map_some, cond_true, cond_false, maxI, maxFrom, minI, minFrom, aConv, aBinE, aEq, eqScal, aUn, evRes, fin, oneOf, if_true, if_false, callee, reduceCtorEq, Nat.reduceEqDiff, List.getElem?_cons_zero, List.getElem?_cons_succ, beq_self_eq_true, gt_iff_lt, List.head?_cons, AV.undef, eq_self, ne_eq, Int.reduceLT, Int.reduceLE, Int.reduceToNat, Int.reduceEq, Int.reduceNeg, Nat.reduceAdd, Nat.reduceLT, Nat.reduceLeDiff, Nat.reduceMul, Nat.reduceSub, ↓evDraw_nil, bir, putD, evDraw, trace, List.all_cons, List.all_nil, chk, stAt, again, sameV, sameL, sameA, AV.undef, Bool.and_self, Bool.and_true, decide_eq_true_eq, List.getElem?_nil, kM, AV.cells, AV.tup, List.drop_nil, List.append_nil, rdO, St.wr, List.length_cons, List.length_nil, List.take_succ_cons, List.take_zero, List.drop_succ_cons, List.drop_zero, List.cons_append, List.nil_append, Nat.reduceMul, aFill, evParts, rep, List.replicate_succ, List.replicate_zero, List.flatten_cons, List.flatten_nil, List.append_nil, newSl, newVar, hA, c1, c2, q, c3, c4, gA]
      rfl
    · rw [if_pos ⟨rfl, by omega, by omega⟩]
      refine ⟨A.put S.next (.cells (lyc ⟨s, n, h⟩) 0 0 true), ?_, x _⟩
      rw [evF_body (af := af16) rfl rfl rfl]
      simp -implicitDefEqProofs -dsimp (maxSteps := 10000000) only [af16, kC, ↓kQ, ↓Option.bind_some, ↓Option.map_some, ↓cond_true, ↓cond_false, evC, evOp, XO.lit, setArgs, Tr.tabG, Tr.tabS, Tr.tabL, Tr.get_lf, Option.bind_some, Option.map_some, cond_true, cond_false, maxI, maxFrom, minI, minFrom, aConv, aBinE, aEq, eqScal, aUn, evRes, fin, oneOf, if_true, if_false, callee, reduceCtorEq, Nat.reduceEqDiff, List.getElem?_cons_zero, List.getElem?_cons_succ, beq_self_eq_true, gt_iff_lt, List.head?_cons, AV.undef, eq_self, ne_eq, Int.reduceLT, Int.reduceLE, Int.reduceToNat, Int.reduceEq, Int.reduceNeg, Nat.reduceAdd, Nat.reduceLT, Nat.reduceLeDiff, Nat.reduceMul, Nat.reduceSub, ↓evDraw_nil, bir, putD, evDraw, trace, List.all_cons, List.all_nil, chk, stAt, again, sameV, sameL, sameA, AV.undef, Bool.and_self, Bool.and_true, decide_eq_true_eq, List.getElem?_nil, kM, AV.cells, AV.tup, List.drop_nil, List.append_nil, rdO, St.wr, List.length_cons, List.length_nil, List.take_succ_cons, List.take_zero, List.drop_succ_cons, List.drop_zero, List.cons_append, List.nil_append, Nat.reduceMul, aFill, evParts, rep, List.replicate_succ, List.replicate_zero, List.flatten_cons, List.flatten_nil, List.append_nil, newSl, newVar, hA, c1, c2, q, c3, c4, wn, gA]
theorem layP_ok {x : Ly} (hu : 0 ≤ x.u ∧ x.u ≤ 4294967295) : layP x.r x.u x.h = if okL x = true then (x, 0) else (zL, 12) := by
  unfold layP okL
  rw [if_neg (by omega)]
  by_cases h : right x.r = true ∧ 1 ≤ x.h ∧ x.h ≤ 8192
  · rw [if_pos h, if_pos (by rw [h.1, decide_eq_true h.2.1, decide_eq_true h.2.2]; rfl)]
  · rw [if_neg h, if_neg (fun hh => h (by simp only [Bool.and_eq_true, decide_eq_true_eq] at hh; exact ⟨hh.1.1, hh.1.2, hh.2⟩))]
set_option maxHeartbeats 8000000 in
/-- Layer, of a layer -/
theorem T9a (k : Nat) {o v i : Nat} {c : Option Nat} {x : Ly} (ho : o < S.next) (hr : S.rd o v i 1 = some [.iface 28 (.agg (lyc x))]) (hs : x.r.length ≤ 9223372036854775807) (hu : 0 ≤ x.u ∧ x.u ≤ 4294967295) :
    ∃ S', evF Y AP (k + 4) 9 [.slice (some (o, v, i)) 1 1 c] S = some (.tuple [.agg (lyc (layP x.r x.u x.h).1), .int .i64 (layP x.r x.u x.h).2], S') ∧ Ext S S' := by
  obtain ⟨A, hA⟩ : ∃ A, S.alloc (.cells [.str [], .int .u32 0, .int .i64 0] 0 0 true) = A := ⟨_, rfl⟩
  have eA : Ext S A := by rw [← hA]; exact .alloc _ _
  have nA : A.next = S.next + 1 := by rw [← hA]; rfl
  have gA : A.get S.next = some (.cells [.str [], .int .u32 0, .int .i64 0] 0 0 true) := by rw [← hA, St.get_alloc, if_pos rfl]
  have hrA : A.rd o v i 1 = some [.iface 28 (.agg (lyc x))] := by rw [eA.rd ho]; exact hr
  obtain ⟨B, hB⟩ : ∃ B, A.alloc (.cells [.str [], .int .u32 0, .int .i64 0] 0 0 true) = B := ⟨_, rfl⟩
  have eB : Ext A B := by rw [← hB]; exact .alloc _ _
  have nB : B.next = A.next + 1 := by rw [← hB]; rfl
  have gB : B.get A.next = some (.cells [.str [], .int .u32 0, .int .i64 0] 0 0 true) := by rw [← hB, St.get_alloc, if_pos rfl]
  obtain ⟨D, hD⟩ : ∃ D, B.put A.next (.cells (lyc x) 0 0 true) = D := ⟨_, rfl⟩
  have eD : Ext A D := by rw [← hD]; exact eB.then_put (Nat.le_refl _) _
  have nD : D.next = A.next + 1 := by rw [← hD]; exact nB
  have gD : D.get A.next = some (.cells (lyc x) 0 0 true) := by rw [← hD, St.get_put, if_pos rfl]
  have rD : ∀ v i m, D.rd A.next v i m = rdO (.cells (lyc x) 0 0 true) v i m := rd_of gD
  obtain ⟨S1, q, x1⟩ := T19 k D hs
  have r1 : ∀ v i m, S1.rd A.next v i m = rdO (.cells (lyc x) 0 0 true) v i m := rd_of (x1.get (by omega) gD)
  have g1 : S1.get S.next = some (.cells [.str [], .int .u32 0, .int .i64 0] 0 0 true) := (eD.trans x1).get (by omega) gA
  have hix : ixOf (.int .i64 0) 1 = some 0 := rfl
  have xx : ∀ z, Ext S (S1.put S.next z) := fun z => (eA.trans (eD.trans x1)).then_put (Nat.le_refl _) _
  rw [layP_ok hu]
  cases hk : okL x with
  | true =>
    rw [hk] at q
    rw [if_pos rfl]
    refine ⟨S1.put S.next (.cells (lyc x) 0 0 true), ?_, xx _⟩
    rw [evF_body (af := af9) rfl rfl rfl]
    simp -implicitDefEqProofs -dsimp (maxSteps := 10000000) only [af9, kC, ↓kQ, ↓Option.bind_some, ↓Option.map_some, ↓cond_true, ↓cond_false, evC, evOp, XO.lit, setArgs, Tr.tabG, Tr.tabS, Tr.tabL, Tr.get_lf, Option.bind_some, Option.map_some, cond_true, cond_false, maxI, maxFrom, minI, minFrom, aConv, aBinE, aEq, eqScal, aUn, evRes, fin, oneOf, if_true, if_false, callee, reduceCtorEq, Nat.reduceEqDiff, List.getElem?_cons_zero, List.getElem?_cons_succ, beq_self_eq_true, gt_iff_lt, List.head?_cons, AV.undef, eq_self, ne_eq, Int.reduceLT, Int.reduceLE, Int.reduceToNat, Int.reduceEq, Int.reduceNeg, Nat.reduceAdd, Nat.reduceLT, Nat.reduceLeDiff, Nat.reduceMul, Nat.reduceSub, ↓evDraw_nil, bir, putD, evDraw, trace, List.all_cons, List.all_nil, chk, stAt, again, sameV, sameL, sameA, AV.undef, Bool.and_self, Bool.and_true, decide_eq_true_eq, List.getElem?_nil, kM, AV.cells, AV.tup, List.drop_nil, List.append_nil, rdO, St.wr, List.length_cons, List.length_nil, List.take_succ_cons, List.take_zero, List.drop_succ_cons, List.drop_zero, List.cons_append, List.nil_append, Nat.reduceMul, aFill, evParts, rep, List.replicate_succ, List.replicate_zero, List.flatten_cons, List.flatten_nil, List.append_nil, newSl, newVar, aAssert, hA, hix, Nat.mul_one, Nat.zero_mul, Nat.add_zero, hrA, hB, gB, hD, rD, q, r1, g1, Nat.zero_le, Nat.le_refl, Int.natCast_one, Int.ofNat_one]
  | false =>
    rw [hk] at q
    rw [if_neg (by decide)]
    refine ⟨S1.put S.next (.cells (lyc zL) 0 0 true), ?_, xx _⟩
    rw [evF_body (af := af9) rfl rfl rfl]
    simp -implicitDefEqProofs -dsimp (maxSteps := 10000000) only [af9, kC, ↓kQ, ↓Option.bind_some, ↓Option.map_some, ↓cond_true, ↓cond_false, evC, evOp, XO.lit, setArgs, Tr.tabG, Tr.tabS, Tr.tabL, Tr.get_lf, Option.bind_some, Option.map_some, cond_true, cond_false, maxI, maxFrom, minI, minFrom, aConv, aBinE, aEq, eqScal, aUn, evRes, fin, oneOf, if_true, if_false, callee, reduceCtorEq, Nat.reduceEqDiff, List.getElem?_cons_zero, List.getElem?_cons_succ, beq_self_eq_true, gt_iff_lt, List.head?_cons, AV.undef, eq_self, ne_eq, Int.reduceLT, Int.reduceLE, Int.reduceToNat, Int.reduceEq, Int.reduceNeg, Nat.reduceAdd, Nat.reduceLT, Nat.reduceLeDiff, Nat.reduceMul, Nat.reduceSub, ↓evDraw_nil, bir, putD, evDraw, trace, List.all_cons, List.all_nil, chk, stAt, again, sameV, sameL, sameA, AV.undef, Bool.and_self, Bool.and_true, decide_eq_true_eq, List.getElem?_nil, kM, AV.cells, AV.tup, List.drop_nil, List.append_nil, rdO, St.wr, List.length_cons, List.length_nil, List.take_succ_cons, List.take_zero, List.drop_succ_cons, List.drop_zero, List.cons_append, List.nil_append, Nat.reduceMul, aFill, evParts, rep, List.replicate_succ, List.replicate_zero, List.flatten_cons, List.flatten_nil, List.append_nil, newSl, newVar, aAssert, hA, hix, Nat.mul_one, Nat.zero_mul, Nat.add_zero, hrA, hB, gB, hD, rD, q, g1, Nat.zero_le, Nat.le_refl, Int.natCast_one, Int.ofNat_one]
    rfl
set_option maxHeartbeats 8000000 in
/-- Layer, of three values -/
theorem T9b (k : Nat) {o v i : Nat} {c : Option Nat} {s : List Nat} {w1 w2 : AV} {n h : Int} (ho : o < S.next) (hr : S.rd o v i 3 = some [.iface 9 (.str s), w1, w2]) (hs : s.length ≤ 9223372036854775807)
    (h1 : ∀ X k, evF Y AP (k + 3) 20 [w1] X = some (.tuple [.int .i64 n, .bool true], X)) (h2 : ∀ X k, evF Y AP (k + 3) 20 [w2] X = some (.tuple [.int .i64 h, .bool true], X)) :
    ∃ S', evF Y AP (k + 4) 9 [.slice (some (o, v, i)) 3 1 c] S = some (.tuple [.agg (lyc (layP s n h).1), .int .i64 (layP s n h).2], S') ∧ Ext S S' := by
  obtain ⟨A, hA⟩ : ∃ A, S.alloc (.cells [.str [], .int .u32 0, .int .i64 0] 0 0 true) = A := ⟨_, rfl⟩
  have eA : Ext S A := by rw [← hA]; exact .alloc _ _
  have nA : A.next = S.next + 1 := by rw [← hA]; rfl
  have gA : A.get S.next = some (.cells [.str [], .int .u32 0, .int .i64 0] 0 0 true) := by rw [← hA, St.get_alloc, if_pos rfl]
  have hrA : A.rd o v i 3 = some [.iface 9 (.str s), w1, w2] := by rw [eA.rd ho]; exact hr
  have z0 : A.rd o v i 1 = some [.iface 9 (.str s)] := by have := rd_sub (m := 0) (l := 1) hrA (by decide); rwa [Nat.add_zero] at this
  have z1 : A.rd o v (i + 1) 1 = some [w1] := rd_sub (m := 1) (l := 1) hrA (by decide)
  have z2 : A.rd o v (i + 2) 1 = some [w2] := rd_sub (m := 2) (l := 1) hrA (by decide)
  have e31 : (((3 : Nat) : Int) = 1) = False := eq_false (by decide)
  have e33 : (((3 : Nat) : Int) = 3) = True := eq_true (by decide)
  have m3 : ((3 : Nat) ≤ 9223372036854775807) = True := eq_true (by decide)
  have i0 : ixOf (.int .i64 0) 3 = some 0 := rfl
  have i1 : ixOf (.int .i64 1) 3 = some 1 := rfl
  have i2 : ixOf (.int .i64 2) 3 = some 2 := rfl
  have q1 := h1 A k
  have q2 := h2 A k
  have xa : ∀ z, Ext S (A.put S.next z) := fun z => eA.then_put (Nat.le_refl _) _
  by_cases c1 : n < 0
  · have e : layP s n h = (zL, 1) := by unfold layP; rw [if_pos (.inl c1)]
    rw [e]
    refine ⟨A.put S.next (.cells (lyc zL) 0 0 true), ?_, xa _⟩
    rw [evF_body (af := af9) rfl rfl rfl]
    simp -implicitDefEqProofs -dsimp (maxSteps := 10000000) only [af9, kC, ↓kQ, ↓Option.bind_some, ↓Option.map_some, ↓cond_true, ↓cond_false, evC, evOp, XO.lit, setArgs, Tr.tabG, Tr.tabS, Tr.tabL, Tr.get_lf, Option.bind_some, Option.map_some, cond_true, cond_false, maxI, maxFrom, minI, minFrom, aConv, aBinE, aEq, eqScal, aUn, evRes, fin, oneOf, if_true, if_false, callee, reduceCtorEq, Nat.reduceEqDiff, List.getElem?_cons_zero, List.getElem?_cons_succ, beq_self_eq_true, gt_iff_lt, List.head?_cons, AV.undef, eq_self, ne_eq, Int.reduceLT, Int.reduceLE, Int.reduceToNat, Int.reduceEq, Int.reduceNeg, Nat.reduceAdd, Nat.reduceLT, Nat.reduceLeDiff, Nat.reduceMul, Nat.reduceSub, ↓evDraw_nil, bir, putD, evDraw, trace, List.all_cons, List.all_nil, chk, stAt, again, sameV, sameL, sameA, AV.undef, Bool.and_self, Bool.and_true, decide_eq_true_eq, List.getElem?_nil, kM, AV.cells, AV.tup, List.drop_nil, List.append_nil, rdO, St.wr, List.length_cons, List.length_nil, List.take_succ_cons, List.take_zero, List.drop_succ_cons, List.drop_zero, List.cons_append, List.nil_append, Nat.reduceMul, aFill, evParts, rep, List.replicate_succ, List.replicate_zero, List.flatten_cons, List.flatten_nil, List.append_nil, newSl, newVar, aAssert, hA, e31, e33, m3, i0, i1, i2, Nat.mul_one, Nat.zero_mul, Nat.add_zero, z0, z1, z2, q1, q2, c1, gA, Int.reduceEq]
    rfl
  by_cases c2 : 4294967295 < n
  · have e : layP s n h = (zL, 1) := by unfold layP; rw [if_pos (.inr c2)]
    rw [e]
    refine ⟨A.put S.next (.cells (lyc zL) 0 0 true), ?_, xa _⟩
    rw [evF_body (af := af9) rfl rfl rfl]
    simp -implicitDefEqProofs -dsimp (maxSteps := 10000000) only [af9, kC, ↓kQ, ↓Option.bind_some, ↓Option.map_some, ↓cond_true, ↓cond_false, evC, evOp, XO.lit, setArgs, Tr.tabG, Tr.tabS, Tr.tabL, Tr.get_lf, Option.bind_some, Option.map_some, cond_true, cond_false, maxI, maxFrom, minI, minFrom, aConv, aBinE, aEq, eqScal, aUn, evRes, fin, oneOf, if_true, if_false, callee, reduceCtorEq, Nat.reduceEqDiff, List.getElem?_cons_zero, List.getElem?_cons_succ, beq_self_eq_true, gt_iff_lt, List.head?_cons, AV.undef, eq_self, ne_eq, Int.reduceLT, Int.reduceLE, Int.reduceToNat, Int.reduceEq, Int.reduceNeg, Nat.reduceAdd, Nat.reduceLT, Nat.reduceLeDiff, Nat.reduceMul, Nat.reduceSub, ↓evDraw_nil, bir, putD, evDraw, trace, List.all_cons, List.all_nil, chk, stAt, again, sameV, sameL, sameA, AV.undef, Bool.and_self, Bool.and_true, decide_eq_true_eq, List.getElem?_nil, kM, AV.cells, AV.tup, List.drop_nil, List.append_nil, rdO, St.wr, List.length_cons, List.length_nil, List.take_succ_cons, List.take_zero, List.drop_succ_cons, List.drop_zero, List.cons_append, List.nil_append, Nat.reduceMul, aFill, evParts, rep, List.replicate_succ, List.replicate_zero, List.flatten_cons, List.flatten_nil, List.append_nil, newSl, newVar, aAssert, hA, e31, e33, m3, i0, i1, i2, Nat.mul_one, Nat.zero_mul, Nat.add_zero, z0, z1, z2, q1, q2, c1, c2, gA, Int.reduceEq]
    rfl
  have wn : IntKind.u32.wrap n = n := u32_id (by omega) (by omega)
  obtain ⟨a, ha⟩ : ∃ a : Int, (if (8193 : Int) < h then (8193 : Int) else h) = a := ⟨_, rfl⟩
  obtain ⟨d, hd⟩ : ∃ d : Int, (if (0 : Int) < a then a else (0 : Int)) = d := ⟨_, rfl⟩
  obtain ⟨B, hB⟩ : ∃ B, A.alloc (.cells [.str [], .int .u32 0, .int .i64 0] 0 0 true) = B := ⟨_, rfl⟩
  have eB : Ext A B := by rw [← hB]; exact .alloc _ _
  have nB : B.next = A.next + 1 := by rw [← hB]; rfl
  have gB : B.get A.next = some (.cells [.str [], .int .u32 0, .int .i64 0] 0 0 true) := by rw [← hB, St.get_alloc, if_pos rfl]
  obtain ⟨D, hD⟩ : ∃ D, B.put A.next (.cells (lyc ⟨s, n, d⟩) 0 0 true) = D := ⟨_, rfl⟩
  have eD : Ext A D := by rw [← hD]; exact eB.then_put (Nat.le_refl _) _
  have nD : D.next = A.next + 1 := by rw [← hD]; exact nB
  have gD : D.get A.next = some (.cells (lyc ⟨s, n, d⟩) 0 0 true) := by rw [← hD, St.get_put, if_pos rfl]
  have rD : ∀ v i m, D.rd A.next v i m = rdO (.cells (lyc ⟨s, n, d⟩) 0 0 true) v i m := rd_of gD
  obtain ⟨S1, q, x1⟩ := T19 k D (x := ⟨s, n, d⟩) hs
  have r1 : ∀ v i m, S1.rd A.next v i m = rdO (.cells (lyc ⟨s, n, d⟩) 0 0 true) v i m := rd_of (x1.get (by omega) gD)
  have g1 : S1.get S.next = some (.cells [.str [], .int .u32 0, .int .i64 0] 0 0 true) := (eD.trans x1).get (by omega) gA
  have xx : ∀ z, Ext S (S1.put S.next z) := fun z => (eA.trans (eD.trans x1)).then_put (Nat.le_refl _) _
  have hdd : (1 ≤ d ∧ d ≤ 8192 ↔ 1 ≤ h ∧ h ≤ 8192) ∧ (1 ≤ h ∧ h ≤ 8192 → d = h) := by
    rw [← hd, ← ha]; split <;> split <;> omega
  have lp : layP s n h = if okL ⟨s, n, d⟩ = true then (⟨s, n, d⟩, 0) else (zL, 12) := by
    have e0 : layP s n d = if okL ⟨s, n, d⟩ = true then (⟨s, n, d⟩, 0) else (zL, 12) := layP_ok (x := ⟨s, n, d⟩) ⟨by show 0 ≤ n; omega, by show n ≤ 4294967295; omega⟩
    have e1 : layP s n h = if right s = true ∧ 1 ≤ h ∧ h ≤ 8192 then (⟨s, n, h⟩, 0) else (zL, 12) := by unfold layP; rw [if_neg (by omega)]
    have e2 : layP s n d = if right s = true ∧ 1 ≤ d ∧ d ≤ 8192 then (⟨s, n, d⟩, 0) else (zL, 12) := by unfold layP; rw [if_neg (by omega)]
    rw [← e0, e1, e2]
    by_cases hh : 1 ≤ h ∧ h ≤ 8192
    · rw [hdd.2 hh]
    · rw [if_neg (fun x => hh x.2), if_neg (fun x => hh (hdd.1.1 x.2))]
  rw [lp]
  cases hk : okL ⟨s, n, d⟩ with
  | true =>
    rw [hk] at q
    rw [if_pos rfl]
    refine ⟨S1.put S.next (.cells (lyc ⟨s, n, d⟩) 0 0 true), ?_, xx _⟩
    rw [evF_body (af := af9) rfl rfl rfl]
    simp -implicitDefEqProofs -dsimp (maxSteps := 10000000) only [af9, kC, ↓kQ, ↓Option.bind_some, ↓Option.map_some, ↓cond_true, ↓cond_false, evC, evOp, XO.lit, setArgs, Tr.tabG, Tr.tabS, Tr.tabL, Tr.get_lf, Option.bind_some, Option.map_some, cond_true, cond_false, maxI, maxFrom, minI, minFrom, aConv, aBinE, aEq, eqScal, aUn, evRes, fin, oneOf, if_true, if_false, callee, reduceCtorEq, Nat.reduceEqDiff, List.getElem?_cons_zero, List.getElem?_cons_succ, beq_self_eq_true, gt_iff_lt, List.head?_cons, AV.undef, eq_self, ne_eq, Int.reduceLT, Int.reduceLE, Int.reduceToNat, Int.reduceEq, Int.reduceNeg, Nat.reduceAdd, Nat.reduceLT, Nat.reduceLeDiff, Nat.reduceMul, Nat.reduceSub, ↓evDraw_nil, bir, putD, evDraw, trace, List.all_cons, List.all_nil, chk, stAt, again, sameV, sameL, sameA, AV.undef, Bool.and_self, Bool.and_true, decide_eq_true_eq, List.getElem?_nil, kM, AV.cells, AV.tup, List.drop_nil, List.append_nil, rdO, St.wr, List.length_cons, List.length_nil, List.take_succ_cons, List.take_zero, List.drop_succ_cons, List.drop_zero, List.cons_append, List.nil_append, Nat.reduceMul, aFill, evParts, rep, List.replicate_succ, List.replicate_zero, List.flatten_cons, List.flatten_nil, List.append_nil, newSl, newVar, aAssert, hA, e31, e33, m3, i0, i1, i2, Nat.mul_one, Nat.zero_mul, Nat.add_zero, z0, z1, z2, q1, q2, c1, c2, wn, ha, hd, hB, gB, hD, rD, q, r1, g1, Int.reduceEq]
  | false =>
    rw [hk] at q
    rw [if_neg (by decide)]
    refine ⟨S1.put S.next (.cells (lyc zL) 0 0 true), ?_, xx _⟩
    rw [evF_body (af := af9) rfl rfl rfl]
    simp -implicitDefEqProofs -dsimp (maxSteps := 10000000) only [af9, kC, ↓kQ, ↓Option.bind_some, ↓Option.map_some, ↓cond_true, ↓cond_false, evC, evOp, XO.lit, setArgs, Tr.tabG, Tr.tabS, Tr.tabL, Tr.get_lf, Option.bind_some, Option.map_some, cond_true, cond_false, maxI, maxFrom, minI, minFrom, aConv, aBinE, aEq, eqScal, aUn, evRes, fin, oneOf, if_true, if_false, callee, reduceCtorEq, Nat.reduceEqDiff, List.getElem?_cons_zero, List.getElem?_cons_succ, beq_self_eq_true, gt_iff_lt, List.head?_cons, AV.undef, eq_self, ne_eq, Int.reduceLT, Int.reduceLE, Int.reduceToNat, Int.reduceEq, Int.reduceNeg, Nat.reduceAdd, Nat.reduceLT, Nat.reduceLeDiff, Nat.reduceMul, Nat.reduceSub, ↓evDraw_nil, bir, putD, evDraw, trace, List.all_cons, List.all_nil, chk, stAt, again, sameV, sameL, sameA, AV.undef, Bool.and_self, Bool.and_true, decide_eq_true_eq, List.getElem?_nil, kM, AV.cells, AV.tup, List.drop_nil, List.append_nil, rdO, St.wr, List.length_cons, List.length_nil, List.take_succ_cons, List.take_zero, List.drop_succ_cons, List.drop_zero, List.cons_append, List.nil_append, Nat.reduceMul, aFill, evParts, rep, List.replicate_succ, List.replicate_zero, List.flatten_cons, List.flatten_nil, List.append_nil, newSl, newVar, aAssert, hA, e31, e33, m3, i0, i1, i2, Nat.mul_one, Nat.zero_mul, Nat.add_zero, z0, z1, z2, q1, q2, c1, c2, wn, ha, hd, hB, gB, hD, rD, q, g1, Int.reduceEq]
    rfl
end
end Go.Proofs.YtbfkhnpginlpdaaA
