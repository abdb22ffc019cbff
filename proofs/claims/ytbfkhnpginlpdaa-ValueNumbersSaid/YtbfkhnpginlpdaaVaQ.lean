/- Chapter 7: values that are no layers. -/
import Derived.Test.YtbfkhnpginlpdaaVaL
set_option linter.unusedVariables false
set_option linter.unusedSimpArgs false
set_option maxRecDepth 10000
namespace Go.Proofs.YtbfkhnpginlpdaaA
open Go.RowKit
attribute [local congr] bind_congr1 map_congr1 cond_congr1 withX_congr after_congr br_congr gd_congr

section
variable {S : St}
set_option maxHeartbeats 4000000 in
/-- Layer, of two values -/
theorem T9x (k : Nat) {o v i : Nat} {c : Option Nat} : ∃ S', evF Y AP (k + 4) 9 [.slice (some (o, v, i)) 2 1 c] S = some (.tuple [.agg (lyc zL), .int .i64 1], S') ∧ Ext S S' := by
  obtain ⟨A, hA⟩ : ∃ A, S.alloc (.cells [.str [], .int .u32 0, .int .i64 0] 0 0 true) = A := ⟨_, rfl⟩
  have eA : Ext S A := by rw [← hA]; exact .alloc _ _
  have gA : A.get S.next = some (.cells [.str [], .int .u32 0, .int .i64 0] 0 0 true) := by rw [← hA, St.get_alloc, if_pos rfl]
  have e21 : (((2 : Nat) : Int) = 1) = False := eq_false (by decide)
  have e23 : (((2 : Nat) : Int) = 3) = False := eq_false (by decide)
  have m2 : ((2 : Nat) ≤ 9223372036854775807) = True := eq_true (by decide)
  refine ⟨A.put S.next (.cells (lyc zL) 0 0 true), ?_, eA.then_put (Nat.le_refl _) _⟩
  rw [evF_body (af := af9) rfl rfl rfl]
  simp -implicitDefEqProofs -dsimp (maxSteps := 10000000) only [af9, kC, ↓kQ, ↓Option.bind_some, ↓Option.map_some, ↓cond_true, ↓cond_false, evC, evOp, XO.lit, setArgs, Tr.tabG, Tr.tabS, Tr.tabL, Tr.get_lf, Option.bind_some, Option.map_some, cond_true, cond_false, maxI, maxFrom, minI, minFrom, aConv, aBinE, aEq, eqScal, aUn, evRes, fin, oneOf, if_true, if_false, callee, reduceCtorEq, Nat.reduceEqDiff, List.getElem?_cons_zero, List.getElem?_cons_succ, beq_self_eq_true, gt_iff_lt, List.head?_cons, AV.undef, eq_self, ne_eq, Int.reduceLT, Int.reduceLE, Int.reduceToNat, Int.reduceEq, Int.reduceNeg, Nat.reduceAdd, Nat.reduceLT, Nat.reduceLeDiff, Nat.reduceMul, Nat.reduceSub, ↓evDraw_nil, bir, putD, evDraw, trace, List.all_cons, List.all_nil, chk, stAt, again, sameV, sameL, sameA, AV.undef, Bool.and_self, Bool.and_true, decide_eq_true_eq, List.getElem?_nil, kM, AV.cells, AV.tup, List.drop_nil, List.append_nil, rdO, St.wr, List.length_cons, List.length_nil, List.take_succ_cons, List.take_zero, List.drop_succ_cons, List.drop_zero, List.cons_append, List.nil_append, Nat.reduceMul, aFill, evParts, rep, List.replicate_succ, List.replicate_zero, List.flatten_cons, List.flatten_nil, List.append_nil, newSl, newVar, hA, e21, e23, m2, gA]
  rfl
set_option maxHeartbeats 4000000 in
/-- Layer, of one value that is none -/
theorem T9y (k : Nat) {o v i t : Nat} {c : Option Nat} {w : AV} (ho : o < S.next) (hr : S.rd o v i 1 = some [.iface t w]) (ht : ¬ t = 28) : ∃ S', evF Y AP (k + 4) 9 [.slice (some (o, v, i)) 1 1 c] S = some (.tuple [.agg (lyc zL), .int .i64 1], S') ∧ Ext S S' := by
  obtain ⟨A, hA⟩ : ∃ A, S.alloc (.cells [.str [], .int .u32 0, .int .i64 0] 0 0 true) = A := ⟨_, rfl⟩
  have eA : Ext S A := by rw [← hA]; exact .alloc _ _
  have nA : A.next = S.next + 1 := by rw [← hA]; rfl
  have gA : A.get S.next = some (.cells [.str [], .int .u32 0, .int .i64 0] 0 0 true) := by rw [← hA, St.get_alloc, if_pos rfl]
  have hrA : A.rd o v i 1 = some [.iface t w] := by rw [eA.rd ho]; exact hr
  obtain ⟨B, hB⟩ : ∃ B, A.alloc (.cells [.str [], .int .u32 0, .int .i64 0] 0 0 true) = B := ⟨_, rfl⟩
  have eB : Ext A B := by rw [← hB]; exact .alloc _ _
  have gB : B.get A.next = some (.cells [.str [], .int .u32 0, .int .i64 0] 0 0 true) := by rw [← hB, St.get_alloc, if_pos rfl]
  obtain ⟨D, hD⟩ : ∃ D, B.put A.next (.cells [.str [], .int .u32 0, .int .i64 0] 0 0 true) = D := ⟨_, rfl⟩
  have eD : Ext A D := by rw [← hD]; exact eB.then_put (Nat.le_refl _) _
  have gD : D.get S.next = some (.cells [.str [], .int .u32 0, .int .i64 0] 0 0 true) := eD.get (by omega) gA
  have hix : ixOf (.int .i64 0) 1 = some 0 := rfl
  have e13 : (((1 : Nat) : Int) = 3) = False := eq_false (by decide)
  have m1 : ((1 : Nat) ≤ 9223372036854775807) = True := eq_true (by decide)
  refine ⟨D.put S.next (.cells (lyc zL) 0 0 true), ?_, (eA.trans eD).then_put (Nat.le_refl _) _⟩
  rw [evF_body (af := af9) rfl rfl rfl]
  simp -implicitDefEqProofs -dsimp (maxSteps := 10000000) only [af9, kC, ↓kQ, ↓Option.bind_some, ↓Option.map_some, ↓cond_true, ↓cond_false, evC, evOp, XO.lit, setArgs, Tr.tabG, Tr.tabS, Tr.tabL, Tr.get_lf, Option.bind_some, Option.map_some, cond_true, cond_false, maxI, maxFrom, minI, minFrom, aConv, aBinE, aEq, eqScal, aUn, evRes, fin, oneOf, if_true, if_false, callee, reduceCtorEq, Nat.reduceEqDiff, List.getElem?_cons_zero, List.getElem?_cons_succ, beq_self_eq_true, gt_iff_lt, List.head?_cons, AV.undef, eq_self, ne_eq, Int.reduceLT, Int.reduceLE, Int.reduceToNat, Int.reduceEq, Int.reduceNeg, Nat.reduceAdd, Nat.reduceLT, Nat.reduceLeDiff, Nat.reduceMul, Nat.reduceSub, ↓evDraw_nil, bir, putD, evDraw, trace, List.all_cons, List.all_nil, chk, stAt, again, sameV, sameL, sameA, AV.undef, Bool.and_self, Bool.and_true, decide_eq_true_eq, List.getElem?_nil, kM, AV.cells, AV.tup, List.drop_nil, List.append_nil, rdO, St.wr, List.length_cons, List.length_nil, List.take_succ_cons, List.take_zero, List.drop_succ_cons, List.drop_zero, List.cons_append, List.nil_append, Nat.reduceMul, aFill, evParts, rep, List.replicate_succ, List.replicate_zero, List.flatten_cons, List.flatten_nil, List.append_nil, newSl, newVar, aAssert, hA, m1, e13, hix, Nat.mul_one, Nat.zero_mul, Nat.add_zero, hrA, ht, hB, gB, hD, gD, Int.natCast_one, Int.ofNat_one]
  rfl
set_option maxHeartbeats 4000000 in
/-- Layer, of three values, the first of which is no text -/
theorem T9z (k : Nat) {o v i t : Nat} {c : Option Nat} {w w1 w2 : AV} {n h : Int} {b1 b2 : Bool} (ho : o < S.next) (hr : S.rd o v i 3 = some [.iface t w, w1, w2]) (ht : ¬ t = 9)
    (h1 : ∀ X k, evF Y AP (k + 3) 20 [w1] X = some (.tuple [.int .i64 n, .bool b1], X)) (h2 : ∀ X k, evF Y AP (k + 3) 20 [w2] X = some (.tuple [.int .i64 h, .bool b2], X)) :
    ∃ S', evF Y AP (k + 4) 9 [.slice (some (o, v, i)) 3 1 c] S = some (.tuple [.agg (lyc zL), .int .i64 1], S') ∧ Ext S S' := by
  obtain ⟨A, hA⟩ : ∃ A, S.alloc (.cells [.str [], .int .u32 0, .int .i64 0] 0 0 true) = A := ⟨_, rfl⟩
  have eA : Ext S A := by rw [← hA]; exact .alloc _ _
  have gA : A.get S.next = some (.cells [.str [], .int .u32 0, .int .i64 0] 0 0 true) := by rw [← hA, St.get_alloc, if_pos rfl]
  have hrA : A.rd o v i 3 = some [.iface t w, w1, w2] := by rw [eA.rd ho]; exact hr
  have z0 : A.rd o v i 1 = some [.iface t w] := by have := rd_sub (m := 0) (l := 1) hrA (by decide); rwa [Nat.add_zero] at this
  have z1 : A.rd o v (i + 1) 1 = some [w1] := rd_sub (m := 1) (l := 1) hrA (by decide)
  have z2 : A.rd o v (i + 2) 1 = some [w2] := rd_sub (m := 2) (l := 1) hrA (by decide)
  have e31 : (((3 : Nat) : Int) = 1) = False := eq_false (by decide)
  have e33 : (((3 : Nat) : Int) = 3) = True := eq_true (by decide)
  have m3 : ((3 : Nat) ≤ 9223372036854775807) = True := eq_true (by decide)
  have i0 : ixOf (.int .i64 0) 3 = some 0 := rfl
  have i1 : ixOf (.int .i64 1) 3 = some 1 := rfl
  have i2 : ixOf (.int .i64 2) 3 = some 2 := rfl
  have q1 := h1 A k
  have q2 := h2 A k
  refine ⟨A.put S.next (.cells (lyc zL) 0 0 true), ?_, eA.then_put (Nat.le_refl _) _⟩
  rw [evF_body (af := af9) rfl rfl rfl]
  simp -implicitDefEqProofs -dsimp (maxSteps := 10000000) only [af9, kC, ↓kQ, ↓Option.bind_some, ↓Option.map_some, ↓cond_true, ↓cond_false, evC, evOp, XO.lit, setArgs, Tr.tabG, Tr.tabS, Tr.tabL, Tr.get_lf, Option.bind_some, Option.map_some, cond_true, cond_false, maxI, maxFrom, minI, minFrom, aConv, aBinE, aEq, eqScal, aUn, evRes, fin, oneOf, if_true, if_false, callee, reduceCtorEq, Nat.reduceEqDiff, List.getElem?_cons_zero, List.getElem?_cons_succ, beq_self_eq_true, gt_iff_lt, List.head?_cons, AV.undef, eq_self, ne_eq, Int.reduceLT, Int.reduceLE, Int.reduceToNat, Int.reduceEq, Int.reduceNeg, Nat.reduceAdd, Nat.reduceLT, Nat.reduceLeDiff, Nat.reduceMul, Nat.reduceSub, ↓evDraw_nil, bir, putD, evDraw, trace, List.all_cons, List.all_nil, chk, stAt, again, sameV, sameL, sameA, AV.undef, Bool.and_self, Bool.and_true, decide_eq_true_eq, List.getElem?_nil, kM, AV.cells, AV.tup, List.drop_nil, List.append_nil, rdO, St.wr, List.length_cons, List.length_nil, List.take_succ_cons, List.take_zero, List.drop_succ_cons, List.drop_zero, List.cons_append, List.nil_append, Nat.reduceMul, aFill, evParts, rep, List.replicate_succ, List.replicate_zero, List.flatten_cons, List.flatten_nil, List.append_nil, newSl, newVar, aAssert, hA, ht, e31, e33, m3, i0, i1, i2, Nat.mul_one, Nat.zero_mul, Nat.add_zero, z0, z1, z2, q1, q2, gA, Int.reduceEq]
  rfl
set_option maxHeartbeats 4000000 in
/-- Layer, of three values, the second of which is no number -/
theorem T9w (k : Nat) {o v i : Nat} {c : Option Nat} {s : List Nat} {w1 w2 : AV} {n h : Int} {b2 : Bool} (ho : o < S.next) (hr : S.rd o v i 3 = some [.iface 9 (.str s), w1, w2])
    (h1 : ∀ X k, evF Y AP (k + 3) 20 [w1] X = some (.tuple [.int .i64 n, .bool false], X)) (h2 : ∀ X k, evF Y AP (k + 3) 20 [w2] X = some (.tuple [.int .i64 h, .bool b2], X)) :
    ∃ S', evF Y AP (k + 4) 9 [.slice (some (o, v, i)) 3 1 c] S = some (.tuple [.agg (lyc zL), .int .i64 1], S') ∧ Ext S S' := by
  obtain ⟨A, hA⟩ : ∃ A, S.alloc (.cells [.str [], .int .u32 0, .int .i64 0] 0 0 true) = A := ⟨_, rfl⟩
  have eA : Ext S A := by rw [← hA]; exact .alloc _ _
  have gA : A.get S.next = some (.cells [.str [], .int .u32 0, .int .i64 0] 0 0 true) := by rw [← hA, St.get_alloc, if_pos rfl]
  have hrA : A.rd o v i 3 = some [.iface 9 (.str s), w1, w2] := by rw [eA.rd ho]; exact hr
  have z0 : A.rd o v i 1 = some [.iface 9 (.str s)] := by have := rd_sub (m := 0) (l := 1) hrA (by decide); rwa [Nat.add_zero] at this
  have z1 : A.rd o v (i + 1) 1 = some [w1] := rd_sub (m := 1) (l := 1) hrA (by decide)
  have z2 : A.rd o v (i + 2) 1 = some [w2] := rd_sub (m := 2) (l := 1) hrA (by decide)
  have e31 : (((3 : Nat) : Int) = 1) = False := eq_false (by decide)
  have e33 : (((3 : Nat) : Int) = 3) = True := eq_true (by decide)
  have m3 : ((3 : Nat) ≤ 9223372036854775807) = True := eq_true (by decide)
  have i0 : ixOf (.int .i64 0) 3 = some 0 := rfl
  have i1 : ixOf (.int .i64 1) 3 = some 1 := rfl
  have i2 : ixOf (.int .i64 2) 3 = some 2 := rfl
  have q1 := h1 A k
  have q2 := h2 A k
  refine ⟨A.put S.next (.cells (lyc zL) 0 0 true), ?_, eA.then_put (Nat.le_refl _) _⟩
  rw [evF_body (af := af9) rfl rfl rfl]
  simp -implicitDefEqProofs -dsimp (maxSteps := 10000000) only [af9, kC, ↓kQ, ↓Option.bind_some, ↓Option.map_some, ↓cond_true, ↓cond_false, evC, evOp, XO.lit, setArgs, Tr.tabG, Tr.tabS, Tr.tabL, Tr.get_lf, Option.bind_some, Option.map_some, cond_true, cond_false, maxI, maxFrom, minI, minFrom, aConv, aBinE, aEq, eqScal, aUn, evRes, fin, oneOf, if_true, if_false, callee, reduceCtorEq, Nat.reduceEqDiff, List.getElem?_cons_zero, List.getElem?_cons_succ, beq_self_eq_true, gt_iff_lt, List.head?_cons, AV.undef, eq_self, ne_eq, Int.reduceLT, Int.reduceLE, Int.reduceToNat, Int.reduceEq, Int.reduceNeg, Nat.reduceAdd, Nat.reduceLT, Nat.reduceLeDiff, Nat.reduceMul, Nat.reduceSub, ↓evDraw_nil, bir, putD, evDraw, trace, List.all_cons, List.all_nil, chk, stAt, again, sameV, sameL, sameA, AV.undef, Bool.and_self, Bool.and_true, decide_eq_true_eq, List.getElem?_nil, kM, AV.cells, AV.tup, List.drop_nil, List.append_nil, rdO, St.wr, List.length_cons, List.length_nil, List.take_succ_cons, List.take_zero, List.drop_succ_cons, List.drop_zero, List.cons_append, List.nil_append, Nat.reduceMul, aFill, evParts, rep, List.replicate_succ, List.replicate_zero, List.flatten_cons, List.flatten_nil, List.append_nil, newSl, newVar, aAssert, hA, e31, e33, m3, i0, i1, i2, Nat.mul_one, Nat.zero_mul, Nat.add_zero, z0, z1, z2, q1, q2, gA, Int.reduceEq]
  rfl
set_option maxHeartbeats 4000000 in
/-- next, of values that are no layer -/
theorem T17x (k : Nat) {o v i n : Nat} {t : Nat} {w : AV} {y : Ly} {er : Int} {S1 : St} (h1 : 1 ≤ n) (hn : n ≤ 3) (hr : S.rd o v i 1 = some [.iface t w]) (t29 : ¬ t = 29) (t28 : ¬ t = 28) (q : evF Y AP (k + 4) 9 [.slice (some (o, v, i)) n 1 none] S = some (.tuple [.agg (lyc y), .int .i64 er], S1)) (x1 : Ext S S1) :
    ∃ w S', evF Y AP (k + 5) 17 [.slice (some (o, v, i)) n 1 none] S = some (.tuple [w, .int .i64 n, .int .i64 er], S') ∧ Ext S S' := by
  have hix : ixOf (.int .i64 0) n = some 0 := by rw [ix_ok (by omega) (by omega)]; rfl
  have hmx : n ≤ 9223372036854775807 := by omega
  have hmn : (if (n : Int) < 3 then (n : Int) else 3) = (n : Int) := by split <;> omega
  have bh : bnd (some (.int .i64 (n : Int))) n n = some n := by rw [bnd_some (by omega) (by omega)]; rfl
  have hcut : aCut 1 (.slice (some (o, v, i)) n 1 none) none (some (.int .i64 (n : Int))) none = some (.slice (some (o, v, i)) n 1 none) := by
    simp [aCut, bh, bnd_none, beq_dec]
  obtain ⟨D, hD⟩ : ∃ D, S1.alloc (.cells [.str [], .int .u32 0, .int .i64 0] 0 0 true) = D := ⟨_, rfl⟩
  have gD : D.get S1.next = some (.cells [.str [], .int .u32 0, .int .i64 0] 0 0 true) := by rw [← hD, St.get_alloc, if_pos rfl]
  have eD0 : Ext S1 D := by rw [← hD]; exact .alloc _ _
  obtain ⟨E, hE⟩ : ∃ E, D.put S1.next (.cells (lyc y) 0 0 true) = E := ⟨_, rfl⟩
  have eE : Ext S1 E := by rw [← hE]; exact eD0.then_put (Nat.le_refl _) _
  have rE : ∀ v i m, E.rd S1.next v i m = rdO (.cells (lyc y) 0 0 true) v i m := rd_of (by rw [← hE, St.get_put, if_pos rfl])
  refine ⟨.slice (some (E.next, 0, 0)) 1 3 none, E.alloc (.cells (lyc y) 0 0 true), ?_, x1.trans (eE.trans (.alloc _ _))⟩
  rw [evF_body (af := af17) rfl rfl rfl]
  simp -implicitDefEqProofs -dsimp (maxSteps := 10000000) only [af17, kC, ↓kQ, ↓Option.bind_some, ↓Option.map_some, ↓cond_true, ↓cond_false, evC, evOp, XO.lit, setArgs, Tr.tabG, Tr.tabS, Tr.tabL, Tr.get_lf, Option.bind_some, Option.map_some, cond_true, cond_false, maxI, maxFrom, minI, minFrom, aConv, aBinE, aEq, eqScal, aUn, evRes, fin, oneOf, if_true, if_false, callee, reduceCtorEq, Nat.reduceEqDiff, List.getElem?_cons_zero, List.getElem?_cons_succ, beq_self_eq_true, gt_iff_lt, List.head?_cons, AV.undef, eq_self, ne_eq, Int.reduceLT, Int.reduceLE, Int.reduceToNat, Int.reduceEq, Int.reduceNeg, Nat.reduceAdd, Nat.reduceLT, Nat.reduceLeDiff, Nat.reduceMul, Nat.reduceSub, ↓evDraw_nil, bir, putD, evDraw, trace, List.all_cons, List.all_nil, chk, stAt, again, sameV, sameL, sameA, AV.undef, Bool.and_self, Bool.and_true, decide_eq_true_eq, List.getElem?_nil, kM, AV.cells, AV.tup, List.drop_nil, List.append_nil, rdO, St.wr, List.length_cons, List.length_nil, List.take_succ_cons, List.take_zero, List.drop_succ_cons, List.drop_zero, List.cons_append, List.nil_append, Nat.reduceMul, aFill, evParts, rep, List.replicate_succ, List.replicate_zero, List.flatten_cons, List.flatten_nil, List.append_nil, newSl, newVar, evOpt, hix, Nat.mul_one, Nat.zero_mul, Nat.add_zero, hr, aAssert, t29, t28, hmx, hmn, hcut, q, hD, gD, hE, rE]
set_option maxHeartbeats 4000000 in
/-- Layers, of values that are none -/
theorem T8x (k : Nat) {o v i n : Nat} {er : Int} {w : AV} {c : Int} {S1 : St} (h1 : 1 ≤ n) (hn : n ≤ 3) (he : ¬ er = 0) (q : evF Y AP (k + 5) 17 [.slice (some (o, v, i)) n 1 none] S = some (.tuple [w, .int .i64 c, .int .i64 er], S1)) :
    evF Y AP (k + 6) 8 [.slice (some (o, v, i)) n 1 none] S = some (.tuple [.slice none 0 0 none, .int .i64 er], S1) := by
  have hmx : n ≤ 9223372036854775807 := by omega
  have hpos : (0 : Int) < (n : Int) := by omega
  suffices hh : ∃ w S', evF Y AP (k + 6) 8 [.slice (some (o, v, i)) n 1 none] S = some (w, S') ∧ w = .tuple [.slice none 0 0 none, .int .i64 er] ∧ S' = S1 by
    obtain ⟨w, S', h1, rfl, rfl⟩ := hh; exact h1
  refine evF_goes (af := af8) (k := k + 5) rfl rfl rfl ?_
  simp -implicitDefEqProofs -dsimp (maxSteps := 10000000) only [af8, ↓kS, after_some, br_true, br_false, kC, ↓kQ, ↓Option.bind_some, ↓Option.map_some, ↓cond_true, ↓cond_false, evC, evOp, XO.lit, setArgs, Tr.tabG, Tr.tabS, Tr.tabL, Tr.get_lf, Option.bind_some, Option.map_some, cond_true, cond_false, maxI, maxFrom, minI, minFrom, aConv, aBinE, aEq, eqScal, aUn, evRes, fin, oneOf, if_true, if_false, callee, reduceCtorEq, Nat.reduceEqDiff, List.getElem?_cons_zero, List.getElem?_cons_succ, beq_self_eq_true, gt_iff_lt, List.head?_cons, AV.undef, eq_self, ne_eq, Int.reduceLT, Int.reduceLE, Int.reduceToNat, Int.reduceEq, Int.reduceNeg, Nat.reduceAdd, Nat.reduceLT, Nat.reduceLeDiff, Nat.reduceMul, Nat.reduceSub, ↓evDraw_nil, bir, putD, evDraw, trace, List.all_cons, List.all_nil, chk, stAt, again, sameV, sameL, sameA, AV.undef, Bool.and_self, Bool.and_true, decide_eq_true_eq, List.getElem?_nil, kM, AV.cells, AV.tup, List.drop_nil, List.append_nil, rdO, St.wr, List.length_cons, List.length_nil, List.take_succ_cons, List.take_zero, List.drop_succ_cons, List.drop_zero, List.cons_append, List.nil_append, Nat.reduceMul, aFill, evParts, rep, List.replicate_succ, List.replicate_zero, List.flatten_cons, List.flatten_nil, List.append_nil, newSl, newVar]
  refine .while (fun (_ : Nat) T U => U = S ∧ T.get 0 = some (.slice (some (o, v, i)) n 1 none)) id 0 ⟨rfl, rfl⟩ (by show 0 < k + 5; omega) fun mm TT SS hh => ?_
  obtain ⟨rfl, t0⟩ := hh
  simp -implicitDefEqProofs -dsimp (maxSteps := 10000000) only [af8_l0, ↓kS, after_some, br_true, br_false, kC, ↓kQ, ↓Option.bind_some, ↓Option.map_some, ↓cond_true, ↓cond_false, evC, evOp, XO.lit, setArgs, Tr.get_set, Option.bind_some, Option.map_some, cond_true, cond_false, maxI, maxFrom, minI, minFrom, aConv, aBinE, aEq, eqScal, aUn, evRes, fin, oneOf, if_true, if_false, callee, reduceCtorEq, Nat.reduceEqDiff, List.getElem?_cons_zero, List.getElem?_cons_succ, beq_self_eq_true, gt_iff_lt, List.head?_cons, AV.undef, eq_self, ne_eq, Int.reduceLT, Int.reduceLE, Int.reduceToNat, Int.reduceEq, Int.reduceNeg, Nat.reduceAdd, Nat.reduceLT, Nat.reduceLeDiff, Nat.reduceMul, Nat.reduceSub, ↓evDraw_nil, bir, putD, evDraw, trace, List.all_cons, List.all_nil, chk, stAt, again, sameV, sameL, sameA, AV.undef, Bool.and_self, Bool.and_true, decide_eq_true_eq, List.getElem?_nil, kM, AV.cells, AV.tup, List.drop_nil, List.append_nil, rdO, St.wr, List.length_cons, List.length_nil, List.take_succ_cons, List.take_zero, List.drop_succ_cons, List.drop_zero, List.cons_append, List.nil_append, Nat.reduceMul, aFill, evParts, rep, List.replicate_succ, List.replicate_zero, List.flatten_cons, List.flatten_nil, List.append_nil, newSl, newVar, evOpt, t0, hmx, hpos, q, he]
  exact ⟨_, _, rfl, rfl, rfl⟩
set_option maxHeartbeats 4000000 in
/-- Layers, of none -/
theorem T8n (k : Nat) : ∃ p e c, evF Y AP (k + 6) 8 [.slice none 0 0 none] S = some (.tuple [.slice p 0 e c, .int .i64 0], S) := by
  obtain ⟨p, e, c, q, _⟩ := T18 (k + 3) (Lr.none S 0)
  have q : evF Y AP (k + 5) 18 [.slice none 0 0 none] S = some (.slice p 0 e c, S) := q
  refine ⟨p, e, c, ?_⟩
  suffices hh : ∃ w S', evF Y AP (k + 6) 8 [.slice none 0 0 none] S = some (w, S') ∧ w = .tuple [.slice p 0 e c, .int .i64 0] ∧ S' = S by
    obtain ⟨w, S', h1, rfl, rfl⟩ := hh; exact h1
  refine evF_goes (af := af8) (k := k + 5) rfl rfl rfl ?_
  simp -implicitDefEqProofs -dsimp (maxSteps := 10000000) only [af8, ↓kS, after_some, br_true, br_false, kC, ↓kQ, ↓Option.bind_some, ↓Option.map_some, ↓cond_true, ↓cond_false, evC, evOp, XO.lit, setArgs, Tr.tabG, Tr.tabS, Tr.tabL, Tr.get_lf, Option.bind_some, Option.map_some, cond_true, cond_false, maxI, maxFrom, minI, minFrom, aConv, aBinE, aEq, eqScal, aUn, evRes, fin, oneOf, if_true, if_false, callee, reduceCtorEq, Nat.reduceEqDiff, List.getElem?_cons_zero, List.getElem?_cons_succ, beq_self_eq_true, gt_iff_lt, List.head?_cons, AV.undef, eq_self, ne_eq, Int.reduceLT, Int.reduceLE, Int.reduceToNat, Int.reduceEq, Int.reduceNeg, Nat.reduceAdd, Nat.reduceLT, Nat.reduceLeDiff, Nat.reduceMul, Nat.reduceSub, ↓evDraw_nil, bir, putD, evDraw, trace, List.all_cons, List.all_nil, chk, stAt, again, sameV, sameL, sameA, AV.undef, Bool.and_self, Bool.and_true, decide_eq_true_eq, List.getElem?_nil, kM, AV.cells, AV.tup, List.drop_nil, List.append_nil, rdO, St.wr, List.length_cons, List.length_nil, List.take_succ_cons, List.take_zero, List.drop_succ_cons, List.drop_zero, List.cons_append, List.nil_append, Nat.reduceMul, aFill, evParts, rep, List.replicate_succ, List.replicate_zero, List.flatten_cons, List.flatten_nil, List.append_nil, newSl, newVar]
  refine .while (fun (_ : Nat) T U => U = S ∧ T.get 0 = some (.slice none 0 0 none) ∧ T.get 4 = some (.slice none 0 0 none)) id 0 ⟨rfl, rfl, rfl⟩ (by show 0 < k + 5; omega) fun mm TT SS hh => ?_
  obtain ⟨rfl, t0, t4⟩ := hh
  have p0 : ¬ (0 : Int) < ((0 : Nat) : Int) := by decide
  have p3 : ¬ (3 : Int) < ((0 : Nat) : Int) := by decide
  simp -implicitDefEqProofs -dsimp (maxSteps := 10000000) only [af8_l0, ↓kS, after_some, br_true, br_false, kC, ↓kQ, ↓Option.bind_some, ↓Option.map_some, ↓cond_true, ↓cond_false, evC, evOp, XO.lit, setArgs, Tr.get_set, Option.bind_some, Option.map_some, cond_true, cond_false, maxI, maxFrom, minI, minFrom, aConv, aBinE, aEq, eqScal, aUn, evRes, fin, oneOf, if_true, if_false, callee, reduceCtorEq, Nat.reduceEqDiff, List.getElem?_cons_zero, List.getElem?_cons_succ, beq_self_eq_true, gt_iff_lt, List.head?_cons, AV.undef, eq_self, ne_eq, Int.reduceLT, Int.reduceLE, Int.reduceToNat, Int.reduceEq, Int.reduceNeg, Nat.reduceAdd, Nat.reduceLT, Nat.reduceLeDiff, Nat.reduceMul, Nat.reduceSub, ↓evDraw_nil, bir, putD, evDraw, trace, List.all_cons, List.all_nil, chk, stAt, again, sameV, sameL, sameA, AV.undef, Bool.and_self, Bool.and_true, decide_eq_true_eq, List.getElem?_nil, kM, AV.cells, AV.tup, List.drop_nil, List.append_nil, rdO, St.wr, List.length_cons, List.length_nil, List.take_succ_cons, List.take_zero, List.drop_succ_cons, List.drop_zero, List.cons_append, List.nil_append, Nat.reduceMul, aFill, evParts, rep, List.replicate_succ, List.replicate_zero, List.flatten_cons, List.flatten_nil, List.append_nil, newSl, newVar, evOpt, t0, t4, Nat.zero_le, p0, p3, q]
  exact ⟨_, _, rfl, rfl, rfl⟩
end
end Go.Proofs.YtbfkhnpginlpdaaA
