/- Chapter 7: the loops of layers. -/
import Derived.Test.YtbfkhnpginlpdaaVaJ
import Derived.Test.YtbfkhnpginlpdaaVaC
set_option linter.unusedVariables false
set_option linter.unusedSimpArgs false
set_option maxRecDepth 10000
namespace Go.Proofs.YtbfkhnpginlpdaaA
open Go.RowKit
attribute [local congr] bind_congr1 map_congr1 cond_congr1 withX_congr after_congr br_congr gd_congr

def whyL (L : List Ly) : Int := if L.all okL = true then 0 else 12
def why1 (w f : Int) : Int := if w = 0 then f else w
structure I72 (Sb : St) (w13 w14 w17 w18 w19 w20 w21 : AV) (p : Option (Nat × Nat × Nat)) (e : Nat) (L : List Ly) (m : Nat) (T : Tm) (S : St) : Prop where
  t13 : T.get 13 = some w13
  t14 : T.get 14 = some w14
  t17 : T.get 17 = some w17
  t18 : T.get 18 = some w18
  t19 : T.get 19 = some w19
  t20 : T.get 20 = some w20
  t21 : T.get 21 = some w21
  t100 : T.get 100 = some (.slice p L.length e none)
  t101 : T.get 101 = some (.int .i64 L.length)
  ext : Ext Sb S
  more : ∃ i : Nat, T.get 102 = some (.int .i64 i) ∧ i + m = L.length ∧ T.get 22 = some (.int .i64 (whyL (L.take i)))
set_option maxHeartbeats 8000000 in
theorem round72 (k : Nat) {Sb : St} {w13 w14 w17 w18 w19 w20 w21 : AV} {p : Option (Nat × Nat × Nat)} {e : Nat} {L : List Ly} (hL : Lr Sb p e L) (hu : ∀ x ∈ L, 0 ≤ x.u ∧ x.u ≤ 4294967295) (m : Nat) (T : Tm) (S : St) (hI : I72 Sb w13 w14 w17 w18 w19 w20 w21 p e L m T S) :
    Goes (evF Y AP (k + 3)) (k + 3) af7_l2 T S (Then (fun T' S' => ∃ m', I72 Sb w13 w14 w17 w18 w19 w20 w21 p e L m' T' S' ∧ id m' < id m) fun r T' S' => r = .exit 0 ∧ I72 Sb w13 w14 w17 w18 w19 w20 w21 p e L 0 T' S') := by
  obtain ⟨t13, t14, t17, t18, t19, t20, t21, t100, t101, ex, i, t102, hm, t22⟩ := hI
  have hmx := hL.mx
  by_cases c1 : (i : Int) < (L.length : Int)
  rotate_left
  · obtain rfl : m = 0 := by omega
    simp -implicitDefEqProofs -dsimp (maxSteps := 10000000) only [af7_l2, ↓kS, after_some, br_true, br_false, kC, ↓kQ, ↓Option.bind_some, ↓Option.map_some, ↓cond_true, ↓cond_false, evC, evOp, XO.lit, setArgs, Tr.get_set, Option.bind_some, Option.map_some, cond_true, cond_false, maxI, maxFrom, minI, minFrom, aConv, aBinE, aEq, eqScal, aUn, evRes, fin, oneOf, if_true, if_false, callee, reduceCtorEq, Nat.reduceEqDiff, List.getElem?_cons_zero, List.getElem?_cons_succ, beq_self_eq_true, gt_iff_lt, List.head?_cons, AV.undef, eq_self, ne_eq, Int.reduceLT, Int.reduceLE, Int.reduceToNat, Int.reduceEq, Int.reduceNeg, Nat.reduceAdd, Nat.reduceLT, Nat.reduceLeDiff, Nat.reduceMul, Nat.reduceSub, kM, AV.cells, AV.tup, List.drop_nil, List.append_nil, rdO, St.wr, List.length_cons, List.length_nil, List.take_succ_cons, List.take_zero, List.drop_succ_cons, List.drop_zero, List.cons_append, List.nil_append, Nat.reduceMul, t101, t102, c1]
    refine ⟨?_, ?_, ?_, ?_, ?_, ?_, ?_, ?_, ?_, ex, i, ?_, hm, ?_⟩ <;> simp only [Tr.get_set, Nat.reduceEqDiff, if_false, if_true, t13, t14, t17, t18, t19, t20, t21, t100, t101, t102, t22]
  have hi : i < L.length := by omega
  have hLS := hL.ext ex
  rcases p with _ | ⟨o, v, j⟩
  · have := hL.nil rfl; rw [this] at hi; exact absurd hi (Nat.not_lt_zero _)
  obtain rfl := hL.ez.resolve_left (by simp)
  have hz := hLS.get hi
  have hst := hL.st _ (List.getElem_mem hi)
  have hux := hu _ (List.getElem_mem hi)
  have htk : (L.take (i + 1)).all okL = ((L.take i).all okL && okL L[i]) := by
    rw [List.take_succ_eq_append_getElem hi, List.all_append]
    simp only [List.all_cons, List.all_nil, Bool.and_true]
  have hwn : whyL (L.take (i + 1)) = if okL L[i] = true then whyL (L.take i) else 12 := by
    unfold whyL
    rw [htk]
    cases (L.take i).all okL <;> cases okL L[i] <;> rfl
  have hw0 : whyL (L.take i) = 0 ∨ whyL (L.take i) = 12 := by unfold whyL; split <;> simp
  obtain ⟨x, hx⟩ : ∃ x, L[i] = x := ⟨_, rfl⟩
  rw [hx] at hz hst hux hwn
  obtain ⟨A, hA⟩ : ∃ A, S.alloc (.cells [.str [], .int .u32 0, .int .i64 0] 0 0 true) = A := ⟨_, rfl⟩
  have gA : A.get S.next = some (.cells [.str [], .int .u32 0, .int .i64 0] 0 0 true) := by rw [← hA, St.get_alloc, if_pos rfl]
  have eA0 : Ext S A := by rw [← hA]; exact .alloc _ _
  obtain ⟨B, hB⟩ : ∃ B, A.put S.next (.cells (lyc x) 0 0 true) = B := ⟨_, rfl⟩
  have eB : Ext S B := by rw [← hB]; exact eA0.then_put (Nat.le_refl _) _
  have rB : ∀ v i m, B.rd S.next v i m = rdO (.cells (lyc x) 0 0 true) v i m := rd_of (by rw [← hB, St.get_put, if_pos rfl])
  obtain ⟨S1, q, x1⟩ := T16 k (S := B) (s := x.r) (n := x.u) (h := x.h) hst
  rw [layP_ok hux] at q
  have wu : IntKind.i64.wrap x.u = x.u := w64_id (by omega) (by omega)
  obtain ⟨C, hC⟩ : ∃ C, S1.alloc (.cells [.str [], .int .u32 0, .int .i64 0] 0 0 true) = C := ⟨_, rfl⟩
  have gC : C.get S1.next = some (.cells [.str [], .int .u32 0, .int .i64 0] 0 0 true) := by rw [← hC, St.get_alloc, if_pos rfl]
  have eC0 : Ext S1 C := by rw [← hC]; exact .alloc _ _
  have eD : ∀ z, Ext S (C.put S1.next z) := fun z => eB.trans (x1.trans (eC0.then_put (Nat.le_refl _) z))
  have hix : ixOf (.int .i64 (i : Nat)) L.length = some i := by rw [ix_ok (by omega) (by omega)]; rfl
  have wi : IntKind.i64.wrap ((i : Int) + 1) = ((i + 1 : Nat) : Int) := w64_id (by omega) (by omega)
  cases ho : okL x with
  | true =>
    rw [ho, if_pos rfl] at q hwn
    simp -implicitDefEqProofs -dsimp (maxSteps := 10000000) only [af7_l2, ↓kS, after_some, br_true, br_false, kC, ↓kQ, ↓Option.bind_some, ↓Option.map_some, ↓cond_true, ↓cond_false, evC, evOp, XO.lit, setArgs, Tr.get_set, Option.bind_some, Option.map_some, cond_true, cond_false, maxI, maxFrom, minI, minFrom, aConv, aBinE, aEq, eqScal, aUn, evRes, fin, oneOf, if_true, if_false, callee, reduceCtorEq, Nat.reduceEqDiff, List.getElem?_cons_zero, List.getElem?_cons_succ, beq_self_eq_true, gt_iff_lt, List.head?_cons, AV.undef, eq_self, ne_eq, Int.reduceLT, Int.reduceLE, Int.reduceToNat, Int.reduceEq, Int.reduceNeg, Nat.reduceAdd, Nat.reduceLT, Nat.reduceLeDiff, Nat.reduceMul, Nat.reduceSub, ↓evDraw_nil, bir, putD, evDraw, trace, List.all_cons, List.all_nil, chk, stAt, again, sameV, sameL, sameA, AV.undef, Bool.and_self, Bool.and_true, decide_eq_true_eq, List.getElem?_nil, kM, AV.cells, AV.tup, List.drop_nil, List.append_nil, rdO, St.wr, List.length_cons, List.length_nil, List.take_succ_cons, List.take_zero, List.drop_succ_cons, List.drop_zero, List.cons_append, List.nil_append, Nat.reduceMul, aFill, evParts, rep, List.replicate_succ, List.replicate_zero, List.flatten_cons, List.flatten_nil, List.append_nil, newSl, newVar, t22, t100, t101, t102, c1, hix, hz, hA, gA, hB, rB, wu, q, hC, gC, wi]
    refine ⟨m - 1, ⟨?_, ?_, ?_, ?_, ?_, ?_, ?_, ?_, ?_, ex.trans (eD _), i + 1, ?_, by omega, ?_⟩, by show m - 1 < m; omega⟩ <;> simp only [Tr.get_set, Nat.reduceEqDiff, if_false, if_true, t13, t14, t17, t18, t19, t20, t21, t22, t100, t101, hwn]
  | false =>
    rw [ho, if_neg (by decide)] at q hwn
    rcases hw0 with h0 | h0
    · rw [h0] at t22
      simp -implicitDefEqProofs -dsimp (maxSteps := 10000000) only [af7_l2, ↓kS, after_some, br_true, br_false, kC, ↓kQ, ↓Option.bind_some, ↓Option.map_some, ↓cond_true, ↓cond_false, evC, evOp, XO.lit, setArgs, Tr.get_set, Option.bind_some, Option.map_some, cond_true, cond_false, maxI, maxFrom, minI, minFrom, aConv, aBinE, aEq, eqScal, aUn, evRes, fin, oneOf, if_true, if_false, callee, reduceCtorEq, Nat.reduceEqDiff, List.getElem?_cons_zero, List.getElem?_cons_succ, beq_self_eq_true, gt_iff_lt, List.head?_cons, AV.undef, eq_self, ne_eq, Int.reduceLT, Int.reduceLE, Int.reduceToNat, Int.reduceEq, Int.reduceNeg, Nat.reduceAdd, Nat.reduceLT, Nat.reduceLeDiff, Nat.reduceMul, Nat.reduceSub, ↓evDraw_nil, bir, putD, evDraw, trace, List.all_cons, List.all_nil, chk, stAt, again, sameV, sameL, sameA, AV.undef, Bool.and_self, Bool.and_true, decide_eq_true_eq, List.getElem?_nil, kM, AV.cells, AV.tup, List.drop_nil, List.append_nil, rdO, St.wr, List.length_cons, List.length_nil, List.take_succ_cons, List.take_zero, List.drop_succ_cons, List.drop_zero, List.cons_append, List.nil_append, Nat.reduceMul, aFill, evParts, rep, List.replicate_succ, List.replicate_zero, List.flatten_cons, List.flatten_nil, List.append_nil, newSl, newVar, t22, t100, t101, t102, c1, hix, hz, hA, gA, hB, rB, wu, q, hC, gC, wi]
      refine ⟨m - 1, ⟨?_, ?_, ?_, ?_, ?_, ?_, ?_, ?_, ?_, ex.trans (eD _), i + 1, ?_, by omega, ?_⟩, by show m - 1 < m; omega⟩ <;> simp only [Tr.get_set, Nat.reduceEqDiff, if_false, if_true, t13, t14, t17, t18, t19, t20, t21, t22, t100, t101, hwn]
    · rw [h0] at t22
      simp -implicitDefEqProofs -dsimp (maxSteps := 10000000) only [af7_l2, ↓kS, after_some, br_true, br_false, kC, ↓kQ, ↓Option.bind_some, ↓Option.map_some, ↓cond_true, ↓cond_false, evC, evOp, XO.lit, setArgs, Tr.get_set, Option.bind_some, Option.map_some, cond_true, cond_false, maxI, maxFrom, minI, minFrom, aConv, aBinE, aEq, eqScal, aUn, evRes, fin, oneOf, if_true, if_false, callee, reduceCtorEq, Nat.reduceEqDiff, List.getElem?_cons_zero, List.getElem?_cons_succ, beq_self_eq_true, gt_iff_lt, List.head?_cons, AV.undef, eq_self, ne_eq, Int.reduceLT, Int.reduceLE, Int.reduceToNat, Int.reduceEq, Int.reduceNeg, Nat.reduceAdd, Nat.reduceLT, Nat.reduceLeDiff, Nat.reduceMul, Nat.reduceSub, ↓evDraw_nil, bir, putD, evDraw, trace, List.all_cons, List.all_nil, chk, stAt, again, sameV, sameL, sameA, AV.undef, Bool.and_self, Bool.and_true, decide_eq_true_eq, List.getElem?_nil, kM, AV.cells, AV.tup, List.drop_nil, List.append_nil, rdO, St.wr, List.length_cons, List.length_nil, List.take_succ_cons, List.take_zero, List.drop_succ_cons, List.drop_zero, List.cons_append, List.nil_append, Nat.reduceMul, aFill, evParts, rep, List.replicate_succ, List.replicate_zero, List.flatten_cons, List.flatten_nil, List.append_nil, newSl, newVar, t22, t100, t101, t102, c1, hix, hz, hA, gA, hB, rB, wu, q, hC, gC, wi]
      refine ⟨m - 1, ⟨?_, ?_, ?_, ?_, ?_, ?_, ?_, ?_, ?_, ex.trans (eD _), i + 1, ?_, by omega, ?_⟩, by show m - 1 < m; omega⟩ <;> simp only [Tr.get_set, Nat.reduceEqDiff, if_false, if_true, t13, t14, t17, t18, t19, t20, t21, t22, t100, t101, hwn]
def why2 (w f h : Int) : Nat → Int
  | 0 => w
  | 1 => why1 w f
  | _ => why1 (why1 w f) h
structure I71 (Sb : St) (w13 w17 w19 w20 w21 : AV) (o : Nat) (w f h : Int) (m : Nat) (T : Tm) (S : St) : Prop where
  st : S = Sb
  t13 : T.get 13 = some w13
  t17 : T.get 17 = some w17
  t19 : T.get 19 = some w19
  t20 : T.get 20 = some w20
  t21 : T.get 21 = some w21
  t127 : T.get 127 = some (.slice (some (o, 0, 0)) 2 1 none)
  t128 : T.get 128 = some (.int .i64 2)
  more : ∃ i : Nat, T.get 129 = some (.int .i64 i) ∧ i + m = 2 ∧ T.get 22 = some (.int .i64 (why2 w f h i))
set_option maxHeartbeats 8000000 in
theorem round71 (k : Nat) {Sb : St} {w13 w17 w19 w20 w21 : AV} {o : Nat} {w f h : Int} (hr : ∀ v i m, Sb.rd o v i m = rdO (.cells [.int .i64 f, .int .i64 h] 0 0 true) v i m) (m : Nat) (T : Tm) (S : St) (hI : I71 Sb w13 w17 w19 w20 w21 o w f h m T S) :
    Goes (evF Y AP (k + 3)) (k + 3) af7_l1 T S (Then (fun T' S' => ∃ m', I71 Sb w13 w17 w19 w20 w21 o w f h m' T' S' ∧ id m' < id m) fun r T' S' => r = .exit 2 ∧ I71 Sb w13 w17 w19 w20 w21 o w f h 0 T' S') := by
  obtain ⟨rfl, t13, t17, t19, t20, t21, t127, t128, i, t129, hm, t22⟩ := hI
  by_cases c1 : (i : Int) < 2
  rotate_left
  · obtain rfl : m = 0 := by omega
    simp -implicitDefEqProofs -dsimp (maxSteps := 10000000) only [af7_l1, ↓kS, after_some, br_true, br_false, kC, ↓kQ, ↓Option.bind_some, ↓Option.map_some, ↓cond_true, ↓cond_false, evC, evOp, XO.lit, setArgs, Tr.get_set, Option.bind_some, Option.map_some, cond_true, cond_false, maxI, maxFrom, minI, minFrom, aConv, aBinE, aEq, eqScal, aUn, evRes, fin, oneOf, if_true, if_false, callee, reduceCtorEq, Nat.reduceEqDiff, List.getElem?_cons_zero, List.getElem?_cons_succ, beq_self_eq_true, gt_iff_lt, List.head?_cons, AV.undef, eq_self, ne_eq, Int.reduceLT, Int.reduceLE, Int.reduceToNat, Int.reduceEq, Int.reduceNeg, Nat.reduceAdd, Nat.reduceLT, Nat.reduceLeDiff, Nat.reduceMul, Nat.reduceSub, kM, AV.cells, AV.tup, List.drop_nil, List.append_nil, rdO, St.wr, List.length_cons, List.length_nil, List.take_succ_cons, List.take_zero, List.drop_succ_cons, List.drop_zero, List.cons_append, List.nil_append, Nat.reduceMul, t128, t129, c1]
    refine ⟨rfl, ?_, ?_, ?_, ?_, ?_, ?_, ?_, i, ?_, hm, ?_⟩ <;> simp only [Tr.get_set, Nat.reduceEqDiff, if_false, if_true, t13, t17, t19, t20, t21, t127, t128, t129, t22]
  have hi : i = 0 ∨ i = 1 := by omega
  have hz : S.rd o 0 i 1 = some [.int .i64 (if i = 0 then f else h)] := by rw [hr]; rcases hi with rfl | rfl <;> rfl
  have hix : ixOf (.int .i64 (i : Nat)) 2 = some i := by rw [ix_ok (by omega) (by omega)]; rfl
  have wi : IntKind.i64.wrap ((i : Int) + 1) = ((i + 1 : Nat) : Int) := w64_id (by omega) (by omega)
  have hn : why2 w f h (i + 1) = why1 (why2 w f h i) (if i = 0 then f else h) := by rcases hi with rfl | rfl <;> rfl
  obtain ⟨g, hg⟩ : ∃ g, (if i = 0 then f else h) = g := ⟨_, rfl⟩
  rw [hg] at hz hn
  obtain ⟨y, hy⟩ : ∃ y, why2 w f h i = y := ⟨_, rfl⟩
  rw [hy] at hn t22
  unfold why1 at hn
  by_cases c2 : y = 0
  · rw [if_pos c2] at hn
    simp -implicitDefEqProofs -dsimp (maxSteps := 10000000) only [af7_l1, ↓kS, after_some, br_true, br_false, kC, ↓kQ, ↓Option.bind_some, ↓Option.map_some, ↓cond_true, ↓cond_false, evC, evOp, XO.lit, setArgs, Tr.get_set, Option.bind_some, Option.map_some, cond_true, cond_false, maxI, maxFrom, minI, minFrom, aConv, aBinE, aEq, eqScal, aUn, evRes, fin, oneOf, if_true, if_false, callee, reduceCtorEq, Nat.reduceEqDiff, List.getElem?_cons_zero, List.getElem?_cons_succ, beq_self_eq_true, gt_iff_lt, List.head?_cons, AV.undef, eq_self, ne_eq, Int.reduceLT, Int.reduceLE, Int.reduceToNat, Int.reduceEq, Int.reduceNeg, Nat.reduceAdd, Nat.reduceLT, Nat.reduceLeDiff, Nat.reduceMul, Nat.reduceSub, ↓evDraw_nil, bir, putD, evDraw, trace, List.all_cons, List.all_nil, chk, stAt, again, sameV, sameL, sameA, AV.undef, Bool.and_self, Bool.and_true, decide_eq_true_eq, List.getElem?_nil, kM, AV.cells, AV.tup, List.drop_nil, List.append_nil, rdO, St.wr, List.length_cons, List.length_nil, List.take_succ_cons, List.take_zero, List.drop_succ_cons, List.drop_zero, List.cons_append, List.nil_append, Nat.reduceMul, t22, t127, t128, t129, c1, hix, Nat.mul_one, Nat.zero_add, hz, c2, wi]
    refine ⟨m - 1, ⟨rfl, ?_, ?_, ?_, ?_, ?_, ?_, ?_, i + 1, ?_, by omega, ?_⟩, by show m - 1 < m; omega⟩ <;> simp only [Tr.get_set, Nat.reduceEqDiff, if_false, if_true, t13, t17, t19, t20, t21, t22, t127, t128, hn]
  · rw [if_neg c2] at hn
    simp -implicitDefEqProofs -dsimp (maxSteps := 10000000) only [af7_l1, ↓kS, after_some, br_true, br_false, kC, ↓kQ, ↓Option.bind_some, ↓Option.map_some, ↓cond_true, ↓cond_false, evC, evOp, XO.lit, setArgs, Tr.get_set, Option.bind_some, Option.map_some, cond_true, cond_false, maxI, maxFrom, minI, minFrom, aConv, aBinE, aEq, eqScal, aUn, evRes, fin, oneOf, if_true, if_false, callee, reduceCtorEq, Nat.reduceEqDiff, List.getElem?_cons_zero, List.getElem?_cons_succ, beq_self_eq_true, gt_iff_lt, List.head?_cons, AV.undef, eq_self, ne_eq, Int.reduceLT, Int.reduceLE, Int.reduceToNat, Int.reduceEq, Int.reduceNeg, Nat.reduceAdd, Nat.reduceLT, Nat.reduceLeDiff, Nat.reduceMul, Nat.reduceSub, ↓evDraw_nil, bir, putD, evDraw, trace, List.all_cons, List.all_nil, chk, stAt, again, sameV, sameL, sameA, AV.undef, Bool.and_self, Bool.and_true, decide_eq_true_eq, List.getElem?_nil, kM, AV.cells, AV.tup, List.drop_nil, List.append_nil, rdO, St.wr, List.length_cons, List.length_nil, List.take_succ_cons, List.take_zero, List.drop_succ_cons, List.drop_zero, List.cons_append, List.nil_append, Nat.reduceMul, t22, t127, t128, t129, c1, hix, Nat.mul_one, Nat.zero_add, hz, c2, wi]
    refine ⟨m - 1, ⟨rfl, ?_, ?_, ?_, ?_, ?_, ?_, ?_, i + 1, ?_, by omega, ?_⟩, by show m - 1 < m; omega⟩ <;> simp only [Tr.get_set, Nat.reduceEqDiff, if_false, if_true, t13, t17, t19, t20, t21, t22, t127, t128, hn]
structure I70 (p q : Option (Nat × Nat × Nat)) (e f : Nat) (c d : Option Nat) (L : List Ly) (Sb : St) (m : Nat) (T : Tm) (S : St) : Prop where
  st : S = Sb
  t19 : T.get 19 = some (.slice p L.length e c)
  t21 : T.get 21 = some (.slice q L.length f d)
  t170 : T.get 170 = some (.int .i64 (L.length : Nat))
  more : ∃ i : Nat, T.get 171 = some (.int .i64 i) ∧ i + m = L.length
set_option maxHeartbeats 4000000 in
theorem round70 (k : Nat) {p q : Option (Nat × Nat × Nat)} {e f : Nat} {c d : Option Nat} {L : List Ly} {Sb : St} (hp : Lr Sb p e L) (hq : Lr Sb q f L) (m : Nat) (T : Tm) (S : St) (hI : I70 p q e f c d L Sb m T S) :
    Goes (evF Y AP (k + 3)) (k + 3) af7_l0 T S (Then (fun T' S' => ∃ m', I70 p q e f c d L Sb m' T' S' ∧ id m' < id m) fun r T' S' => r = .exit 4 ∧ I70 p q e f c d L Sb 0 T' S') := by
  obtain ⟨rfl, t19, t21, t170, i, t171, hm⟩ := hI
  have mx := hp.mx
  by_cases c1 : (i : Int) < (L.length : Int)
  rotate_left
  · obtain rfl : m = 0 := by omega
    simp -implicitDefEqProofs -dsimp (maxSteps := 10000000) only [af7_l0, ↓kS, after_some, br_true, br_false, kC, ↓kQ, ↓Option.bind_some, ↓Option.map_some, ↓cond_true, ↓cond_false, evC, evOp, XO.lit, setArgs, Tr.get_set, Option.bind_some, Option.map_some, cond_true, cond_false, maxI, maxFrom, minI, minFrom, aConv, aBinE, aEq, eqScal, aUn, evRes, fin, oneOf, if_true, if_false, callee, reduceCtorEq, Nat.reduceEqDiff, List.getElem?_cons_zero, List.getElem?_cons_succ, beq_self_eq_true, gt_iff_lt, List.head?_cons, AV.undef, eq_self, ne_eq, Int.reduceLT, Int.reduceLE, Int.reduceToNat, Int.reduceEq, Int.reduceNeg, Nat.reduceAdd, Nat.reduceLT, Nat.reduceLeDiff, Nat.reduceMul, Nat.reduceSub, kM, AV.cells, AV.tup, List.drop_nil, List.append_nil, rdO, St.wr, List.length_cons, List.length_nil, List.take_succ_cons, List.take_zero, List.drop_succ_cons, List.drop_zero, List.cons_append, List.nil_append, Nat.reduceMul, t170, t171, c1]
    refine ⟨rfl, ?_, ?_, ?_, i, ?_, hm⟩ <;> simp only [Tr.get_set, Nat.reduceEqDiff, if_false, if_true, t19, t21, t170, t171]
  have hi : i < L.length := by omega
  rcases p with _ | ⟨o1, v1, i1⟩
  · have := hp.nil rfl; rw [this] at hi; exact absurd hi (Nat.not_lt_zero _)
  rcases q with _ | ⟨o2, v2, i2⟩
  · have := hq.nil rfl; rw [this] at hi; exact absurd hi (Nat.not_lt_zero _)
  obtain rfl := hp.ez.resolve_left (by simp)
  obtain rfl := hq.ez.resolve_left (by simp)
  have z1 := hp.get hi
  have z2 := hq.get hi
  have hix : ixOf (.int .i64 (i : Nat)) L.length = some i := by rw [ix_ok (by omega) (by omega)]; rfl
  have wi : IntKind.i64.wrap ((i : Int) + 1) = ((i + 1 : Nat) : Int) := w64_id (by omega) (by omega)
  obtain ⟨x, hx⟩ : ∃ x, L[i] = x := ⟨_, rfl⟩
  rw [hx] at z1 z2
  have es := eqF x
  simp -implicitDefEqProofs -dsimp (maxSteps := 10000000) only [af7_l0, ↓kS, after_some, br_true, br_false, kC, ↓kQ, ↓Option.bind_some, ↓Option.map_some, ↓cond_true, ↓cond_false, evC, evOp, XO.lit, setArgs, Tr.get_set, Option.bind_some, Option.map_some, cond_true, cond_false, maxI, maxFrom, minI, minFrom, aConv, aBinE, aEq, eqScal, aUn, evRes, fin, oneOf, if_true, if_false, callee, reduceCtorEq, Nat.reduceEqDiff, List.getElem?_cons_zero, List.getElem?_cons_succ, beq_self_eq_true, gt_iff_lt, List.head?_cons, AV.undef, eq_self, ne_eq, Int.reduceLT, Int.reduceLE, Int.reduceToNat, Int.reduceEq, Int.reduceNeg, Nat.reduceAdd, Nat.reduceLT, Nat.reduceLeDiff, Nat.reduceMul, Nat.reduceSub, ↓evDraw_nil, bir, putD, evDraw, trace, List.all_cons, List.all_nil, chk, stAt, again, sameV, sameL, sameA, AV.undef, Bool.and_self, Bool.and_true, decide_eq_true_eq, List.getElem?_nil, kM, AV.cells, AV.tup, List.drop_nil, List.append_nil, rdO, St.wr, List.length_cons, List.length_nil, List.take_succ_cons, List.take_zero, List.drop_succ_cons, List.drop_zero, List.cons_append, List.nil_append, Nat.reduceMul, aFill, evParts, rep, List.replicate_succ, List.replicate_zero, List.flatten_cons, List.flatten_nil, List.append_nil, newSl, newVar, t19, t21, t170, t171, c1, mx, hix, z1, z2, es, wi, aStr]
  refine ⟨m - 1, ⟨rfl, ?_, ?_, ?_, i + 1, ?_, by omega⟩, by show m - 1 < m; omega⟩ <;> simp only [Tr.get_set, Nat.reduceEqDiff, if_false, if_true, t19, t21, t170]
end Go.Proofs.YtbfkhnpginlpdaaA
