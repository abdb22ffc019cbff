/- Chapter 7: the layers at the front of values. -/
import Derived.Test.YtbfkhnpginlpdaaVaG
set_option linter.unusedVariables false
set_option linter.unusedSimpArgs false
set_option maxRecDepth 10000
namespace Go.Proofs.YtbfkhnpginlpdaaA
open Go.RowKit
attribute [local congr] bind_congr1 map_congr1 cond_congr1 withX_congr after_congr br_congr gd_congr

section
variable {S : St}
/-- next, of a list with one that is not right -/
theorem T17e (k : Nat) {o v i n : Nat} {c c' : Option Nat} {p : Option (Nat × Nat × Nat)} {e : Nat} {L : List Ly} (hn : 1 ≤ n) (hr : S.rd o v i 1 = some [.iface 29 (.slice p L.length e c')]) (hL : Lr S p e L) (hk : L.all okL = false) :
    ∃ S', evF Y AP (k + L.length + 7) 17 [.slice (some (o, v, i)) n 1 c] S = some (.tuple [.slice none 0 0 none, .int .i64 0, .int .i64 12], S') ∧ Ext S S' := by
  obtain ⟨S', q, x⟩ := T23 k (c := c') hL
  rw [hk] at q
  have hix : ixOf (.int .i64 0) n = some 0 := by rw [ix_ok (by omega) (by omega)]; rfl
  refine ⟨S', ?_, x⟩
  rw [evF_body (af := af17) rfl rfl rfl]
  simp -implicitDefEqProofs -dsimp (maxSteps := 10000000) only [af17, kC, ↓kQ, ↓Option.bind_some, ↓Option.map_some, ↓cond_true, ↓cond_false, evC, evOp, XO.lit, setArgs, Tr.tabG, Tr.tabS, Tr.tabL, Tr.get_lf, Option.bind_some, Option.map_some, cond_true, cond_false, maxI, maxFrom, minI, minFrom, aConv, aBinE, aEq, eqScal, aUn, evRes, fin, oneOf, if_true, if_false, callee, reduceCtorEq, Nat.reduceEqDiff, List.getElem?_cons_zero, List.getElem?_cons_succ, beq_self_eq_true, gt_iff_lt, List.head?_cons, AV.undef, eq_self, ne_eq, Int.reduceLT, Int.reduceLE, Int.reduceToNat, Int.reduceEq, Int.reduceNeg, Nat.reduceAdd, Nat.reduceLT, Nat.reduceLeDiff, Nat.reduceMul, Nat.reduceSub, ↓evDraw_nil, bir, putD, evDraw, trace, List.all_cons, List.all_nil, chk, stAt, again, sameV, sameL, sameA, AV.undef, Bool.and_self, Bool.and_true, decide_eq_true_eq, List.getElem?_nil, kM, AV.cells, AV.tup, List.drop_nil, List.append_nil, rdO, St.wr, List.length_cons, List.length_nil, List.take_succ_cons, List.take_zero, List.drop_succ_cons, List.drop_zero, List.cons_append, List.nil_append, Nat.reduceMul, aFill, evParts, rep, List.replicate_succ, List.replicate_zero, List.flatten_cons, List.flatten_nil, List.append_nil, newSl, newVar, hix, Nat.mul_one, Nat.zero_mul, Nat.add_zero, hr, aAssert, q, Bool.not_false]
set_option maxHeartbeats 8000000 in
/-- next, of a layer -/
theorem T17s (k : Nat) {o v i n : Nat} {c : Option Nat} {x : Ly} (hn : 1 ≤ n) (ho : o < S.next) (hr : S.rd o v i 1 = some [.iface 28 (.agg (lyc x))]) (hs : x.r.length ≤ 9223372036854775807) (hu : 0 ≤ x.u ∧ x.u ≤ 4294967295) :
    ∃ W S', evF Y AP (k + 5) 17 [.slice (some (o, v, i)) n 1 c] S = some (.tuple [.slice (some (W, 0, 0)) 1 3 none, .int .i64 1, .int .i64 (layP x.r x.u x.h).2], S') ∧ Ext S S' ∧ W < S'.next ∧ S'.rd W 0 0 3 = some (lyc (layP x.r x.u x.h).1) := by
  have hix : ixOf (.int .i64 0) n = some 0 := by rw [ix_ok (by omega) (by omega)]; rfl
  obtain ⟨A, hA⟩ : ∃ A, S.alloc (.cells [.str [], .int .u32 0, .int .i64 0] 0 0 true) = A := ⟨_, rfl⟩
  have gA : A.get S.next = some (.cells [.str [], .int .u32 0, .int .i64 0] 0 0 true) := by rw [← hA, St.get_alloc, if_pos rfl]
  have eA0 : Ext S A := by rw [← hA]; exact .alloc _ _
  have nA : A.next = S.next + 1 := by rw [← hA]; rfl
  obtain ⟨B, hB⟩ : ∃ B, A.put S.next (.cells (lyc x) 0 0 true) = B := ⟨_, rfl⟩
  have eB : Ext S B := by rw [← hB]; exact eA0.then_put (Nat.le_refl _) _
  have rB : ∀ v i m, B.rd S.next v i m = rdO (.cells (lyc x) 0 0 true) v i m := rd_of (by rw [← hB, St.get_put, if_pos rfl])
  obtain ⟨C, hC⟩ : ∃ C, B.alloc (.cells [.iface 28 (.agg (lyc x))] 0 0 true) = C := ⟨_, rfl⟩
  have eC : Ext B C := by rw [← hC]; exact .alloc _ _
  have nC : C.next = B.next + 1 := by rw [← hC]; rfl
  have rC : C.rd B.next 0 0 1 = some [.iface 28 (.agg (lyc x))] := by rw [← hC, rd_alloc, if_pos rfl]; rfl
  obtain ⟨S1, q, x1⟩ := T9a k (c := none) (by omega) rC hs hu
  obtain ⟨y, hy⟩ : ∃ y, layP x.r x.u x.h = y := ⟨_, rfl⟩
  rw [hy] at q ⊢
  obtain ⟨D, hD⟩ : ∃ D, S1.alloc (.cells [.str [], .int .u32 0, .int .i64 0] 0 0 true) = D := ⟨_, rfl⟩
  have gD : D.get S1.next = some (.cells [.str [], .int .u32 0, .int .i64 0] 0 0 true) := by rw [← hD, St.get_alloc, if_pos rfl]
  have eD0 : Ext S1 D := by rw [← hD]; exact .alloc _ _
  obtain ⟨E, hE⟩ : ∃ E, D.put S1.next (.cells (lyc y.1) 0 0 true) = E := ⟨_, rfl⟩
  have eE : Ext S1 E := by rw [← hE]; exact eD0.then_put (Nat.le_refl _) _
  have rE : ∀ v i m, E.rd S1.next v i m = rdO (.cells (lyc y.1) 0 0 true) v i m := rd_of (by rw [← hE, St.get_put, if_pos rfl])
  refine ⟨E.next, E.alloc (.cells (lyc y.1) 0 0 true), ?_, eB.trans (eC.trans (x1.trans (eE.trans (.alloc _ _)))), Nat.lt_succ_self _, by rw [rd_alloc, if_pos rfl]; rfl⟩
  rw [evF_body (af := af17) rfl rfl rfl]
  simp -implicitDefEqProofs -dsimp (maxSteps := 10000000) only [af17, kC, ↓kQ, ↓Option.bind_some, ↓Option.map_some, ↓cond_true, ↓cond_false, evC, evOp, XO.lit, setArgs, Tr.tabG, Tr.tabS, Tr.tabL, Tr.get_lf, Option.bind_some, Option.map_some, cond_true, cond_false, maxI, maxFrom, minI, minFrom, aConv, aBinE, aEq, eqScal, aUn, evRes, fin, oneOf, if_true, if_false, callee, reduceCtorEq, Nat.reduceEqDiff, List.getElem?_cons_zero, List.getElem?_cons_succ, beq_self_eq_true, gt_iff_lt, List.head?_cons, AV.undef, eq_self, ne_eq, Int.reduceLT, Int.reduceLE, Int.reduceToNat, Int.reduceEq, Int.reduceNeg, Nat.reduceAdd, Nat.reduceLT, Nat.reduceLeDiff, Nat.reduceMul, Nat.reduceSub, ↓evDraw_nil, bir, putD, evDraw, trace, List.all_cons, List.all_nil, chk, stAt, again, sameV, sameL, sameA, AV.undef, Bool.and_self, Bool.and_true, decide_eq_true_eq, List.getElem?_nil, kM, AV.cells, AV.tup, List.drop_nil, List.append_nil, rdO, St.wr, List.length_cons, List.length_nil, List.take_succ_cons, List.take_zero, List.drop_succ_cons, List.drop_zero, List.cons_append, List.nil_append, Nat.reduceMul, aFill, evParts, rep, List.replicate_succ, List.replicate_zero, List.flatten_cons, List.flatten_nil, List.append_nil, newSl, newVar, hix, Nat.mul_one, Nat.zero_mul, Nat.add_zero, hr, aAssert, hA, gA, hB, rB, hC, q, hD, gD, hE, rE]
set_option maxHeartbeats 8000000 in
/-- next, of three values -/
theorem T17t (k : Nat) {o v i n : Nat} {s : List Nat} {w1 w2 : AV} {m h : Int} (hn : 3 ≤ n) (hn2 : n ≤ 1000) (ho : o < S.next) (hr : S.rd o v i 3 = some [.iface 9 (.str s), w1, w2]) (hs : s.length ≤ 9223372036854775807)
    (h1 : ∀ X k, evF Y AP (k + 3) 20 [w1] X = some (.tuple [.int .i64 m, .bool true], X)) (h2 : ∀ X k, evF Y AP (k + 3) 20 [w2] X = some (.tuple [.int .i64 h, .bool true], X)) :
    ∃ W S', evF Y AP (k + 5) 17 [.slice (some (o, v, i)) n 1 none] S = some (.tuple [.slice (some (W, 0, 0)) 1 3 none, .int .i64 3, .int .i64 (layP s m h).2], S') ∧ Ext S S' ∧ W < S'.next ∧ S'.rd W 0 0 3 = some (lyc (layP s m h).1) := by
  have hix : ixOf (.int .i64 0) n = some 0 := by rw [ix_ok (by omega) (by omega)]; rfl
  have z0 : S.rd o v i 1 = some [.iface 9 (.str s)] := by have := rd_sub (m := 0) (l := 1) hr (by decide); rwa [Nat.add_zero] at this
  have hmx : n ≤ 9223372036854775807 := by omega
  have hmn : (if (n : Int) < 3 then (n : Int) else 3) = 3 := if_neg (by omega)
  have bh : bnd (some (.int .i64 3)) n n = some 3 := by rw [bnd_some (by omega) (by omega)]; rfl
  have hcut : aCut 1 (.slice (some (o, v, i)) n 1 none) none (some (.int .i64 3)) none = some (.slice (some (o, v, i)) 3 1 none) := by
    simp [aCut, bh, bnd_none, beq_dec]
  obtain ⟨S1, q, x1⟩ := T9b k (c := none) ho hr hs h1 h2
  obtain ⟨y, hy⟩ : ∃ y, layP s m h = y := ⟨_, rfl⟩
  rw [hy] at q ⊢
  obtain ⟨D, hD⟩ : ∃ D, S1.alloc (.cells [.str [], .int .u32 0, .int .i64 0] 0 0 true) = D := ⟨_, rfl⟩
  have gD : D.get S1.next = some (.cells [.str [], .int .u32 0, .int .i64 0] 0 0 true) := by rw [← hD, St.get_alloc, if_pos rfl]
  have eD0 : Ext S1 D := by rw [← hD]; exact .alloc _ _
  obtain ⟨E, hE⟩ : ∃ E, D.put S1.next (.cells (lyc y.1) 0 0 true) = E := ⟨_, rfl⟩
  have eE : Ext S1 E := by rw [← hE]; exact eD0.then_put (Nat.le_refl _) _
  have rE : ∀ v i m, E.rd S1.next v i m = rdO (.cells (lyc y.1) 0 0 true) v i m := rd_of (by rw [← hE, St.get_put, if_pos rfl])
  refine ⟨E.next, E.alloc (.cells (lyc y.1) 0 0 true), ?_, x1.trans (eE.trans (.alloc _ _)), Nat.lt_succ_self _, by rw [rd_alloc, if_pos rfl]; rfl⟩
  rw [evF_body (af := af17) rfl rfl rfl]
  simp -implicitDefEqProofs -dsimp (maxSteps := 10000000) only [af17, kC, ↓kQ, ↓Option.bind_some, ↓Option.map_some, ↓cond_true, ↓cond_false, evC, evOp, XO.lit, setArgs, Tr.tabG, Tr.tabS, Tr.tabL, Tr.get_lf, Option.bind_some, Option.map_some, cond_true, cond_false, maxI, maxFrom, minI, minFrom, aConv, aBinE, aEq, eqScal, aUn, evRes, fin, oneOf, if_true, if_false, callee, reduceCtorEq, Nat.reduceEqDiff, List.getElem?_cons_zero, List.getElem?_cons_succ, beq_self_eq_true, gt_iff_lt, List.head?_cons, AV.undef, eq_self, ne_eq, Int.reduceLT, Int.reduceLE, Int.reduceToNat, Int.reduceEq, Int.reduceNeg, Nat.reduceAdd, Nat.reduceLT, Nat.reduceLeDiff, Nat.reduceMul, Nat.reduceSub, ↓evDraw_nil, bir, putD, evDraw, trace, List.all_cons, List.all_nil, chk, stAt, again, sameV, sameL, sameA, AV.undef, Bool.and_self, Bool.and_true, decide_eq_true_eq, List.getElem?_nil, kM, AV.cells, AV.tup, List.drop_nil, List.append_nil, rdO, St.wr, List.length_cons, List.length_nil, List.take_succ_cons, List.take_zero, List.drop_succ_cons, List.drop_zero, List.cons_append, List.nil_append, Nat.reduceMul, aFill, evParts, rep, List.replicate_succ, List.replicate_zero, List.flatten_cons, List.flatten_nil, List.append_nil, newSl, newVar, evOpt, hix, Nat.mul_one, Nat.zero_mul, Nat.add_zero, z0, aAssert, hmx, hmn, hcut, q, hD, gD, hE, rE]
end
end Go.Proofs.YtbfkhnpginlpdaaA
