/- Chapter 7: ValueNumbers, its loops. -/
import Derived.Test.YtbfkhnpginlpdaaVaL
set_option linter.unusedVariables false
set_option linter.unusedSimpArgs false
set_option maxRecDepth 10000
namespace Go.Proofs.YtbfkhnpginlpdaaA
open Go.RowKit
attribute [local congr] bind_congr1 map_congr1 cond_congr1 withX_congr after_congr br_congr gd_congr

structure I3a (Sb : St) (s : List Nat) (w17 w18 w19 : AV) (o : Nat) (m : Nat) (T : Tm) (S : St) : Prop where
  t2 : T.get 2 = some (.str s)
  t17 : T.get 17 = some w17
  t18 : T.get 18 = some w18
  t19 : T.get 19 = some w19
  t23 : T.get 23 = some (.slice (some (o, 0, 0)) 9 1 none)
  t24 : T.get 24 = some (.int .i64 9)
  ext : Ext Sb S
  more : ∃ i : Nat, T.get 25 = some (.int .i64 i) ∧ i + m = 9
set_option maxHeartbeats 16000000 in
theorem round3a (k : Nat) {Sb : St} {s : List Nat} {w17 w18 w19 : AV} {o : Nat} (ho : o < Sb.next) (hc : ∀ i, i < 9 → ∃ z, Sb.rd o 0 i 1 = some [.int .i64 z]) (hb : ∀ x ∈ s, x < 256) (hs : s.length ≤ 1000) (m : Nat) (T : Tm) (S : St) (hI : I3a Sb s w17 w18 w19 o m T S) :
    Goes (evF Y AP (k + 30)) (k + 30) af3_l0 T S (Then (fun T' S' => ∃ m', I3a Sb s w17 w18 w19 o m' T' S' ∧ id m' < id m) fun r T' S' => r = .exit 2 ∧ I3a Sb s w17 w18 w19 o 0 T' S') := by
  obtain ⟨t2, t17, t18, t19, t23, t24, ex, i, t25, hm⟩ := hI
  by_cases c1 : (i : Int) < 9
  rotate_left
  · obtain rfl : m = 0 := by omega
    simp -implicitDefEqProofs -dsimp (maxSteps := 10000000) only [af3_l0, ↓kS, after_some, br_true, br_false, kC, ↓kQ, ↓Option.bind_some, ↓Option.map_some, ↓cond_true, ↓cond_false, evC, evOp, XO.lit, setArgs, Tr.get_set, Option.bind_some, Option.map_some, cond_true, cond_false, maxI, maxFrom, minI, minFrom, aConv, aBinE, aEq, eqScal, aUn, evRes, fin, oneOf, if_true, if_false, callee, reduceCtorEq, Nat.reduceEqDiff, List.getElem?_cons_zero, List.getElem?_cons_succ, beq_self_eq_true, gt_iff_lt, List.head?_cons, AV.undef, eq_self, ne_eq, Int.reduceLT, Int.reduceLE, Int.reduceToNat, Int.reduceEq, Int.reduceNeg, Nat.reduceAdd, Nat.reduceLT, Nat.reduceLeDiff, Nat.reduceMul, Nat.reduceSub, kM, AV.cells, AV.tup, List.drop_nil, List.append_nil, rdO, St.wr, List.length_cons, List.length_nil, List.take_succ_cons, List.take_zero, List.drop_succ_cons, List.drop_zero, List.cons_append, List.nil_append, Nat.reduceMul, t24, t25, c1]
    refine ⟨?_, ?_, ?_, ?_, ?_, ?_, ex, i, ?_, hm⟩ <;> simp only [Tr.get_set, Nat.reduceEqDiff, if_false, if_true, t2, t17, t18, t19, t23, t24, t25]
  obtain ⟨z, hz⟩ := hc i (by omega)
  have hzS : S.rd o 0 i 1 = some [.int .i64 z] := by rw [ex.rd ho]; exact hz
  have hix : ixOf (.int .i64 (i : Nat)) 9 = some i := by rw [ix_ok (by omega) (by omega)]; rfl
  have wi : IntKind.i64.wrap ((i : Int) + 1) = ((i + 1 : Nat) : Int) := w64_id (by omega) (by omega)
  have h32 : -2147483648 ≤ IntKind.i32.wrap z ∧ IntKind.i32.wrap z ≤ 2147483647 := by rw [IntKind.wrap_i32]; omega
  have hu32 : 0 ≤ IntKind.u32.wrap z ∧ IntKind.u32.wrap z < 4294967296 := by rw [IntKind.wrap_u32]; omega
  obtain ⟨r, hr⟩ : ∃ r, IntKind.i32.wrap z = r := ⟨_, rfl⟩
  obtain ⟨u, hu⟩ : ∃ u, IntKind.u32.wrap z = u := ⟨_, rfl⟩
  rw [hr] at h32; rw [hu] at hu32
  have hsl : s.length ≤ 9223372036854775807 := by omega
  obtain ⟨b, hb0⟩ : ∃ b, decide (0 < z) = b := ⟨_, rfl⟩
  obtain ⟨V1, q6, x6⟩ := T6 (k + 5) S (n := z) (b := b) h32 hu32 hb hsl
  have q6 : evF Y AP (k + 30) 6 [.int .i64 z, .int .i32 r, .int .u32 u, .str s, .bool b] S = _ := q6
  obtain ⟨V2, q7, x7⟩ := T7 (k + 17) (S := V1) (s := s) (n := z) (h := 720) (x := ⟨s, 5, z⟩) (Lr.none V1 0) (fun y hy => (by cases hy)) (by decide) hsl hsl (by show (0 : Int) ≤ 5 ∧ (5 : Int) ≤ 4294967295; decide)
  have q7 : evF Y AP (k + 30) 7 [.str s, .int .i64 z, .int .i64 720, .agg [.str s, .int .u32 5, .int .i64 z], .slice none 0 0 none] V1 = _ := q7
  obtain ⟨A, hA⟩ : ∃ A, V2.alloc (.cells [.str s, .int .u32 0, .int .i64 4] 0 0 true) = A := ⟨_, rfl⟩
  have eA : Ext V2 A := by rw [← hA]; exact .alloc _ _
  have nA : A.next = V2.next + 1 := by rw [← hA]; rfl
  have rA : A.rd V2.next 0 0 3 = some [.str s, .int .u32 0, .int .i64 4] := by rw [← hA, rd_alloc, if_pos rfl]; rfl
  have hLr : Lr A (some (V2.next, 0, 0)) 3 [⟨s, 0, 4⟩] := ⟨.inr rfl, fun h => (by cases h), fun o v i hp => by cases hp; exact ⟨by omega, rA⟩, by simp, fun y hy => by rw [List.mem_singleton] at hy; rw [hy]; exact hsl⟩
  obtain ⟨V3, q7', x8⟩ := T7 (k + 16) (S := A) (s := s) (n := 3) (h := z) (x := ⟨[98], u, 9⟩) hLr (fun y hy => by rw [List.mem_singleton] at hy; rw [hy]; show (0 : Int) ≤ 0 ∧ (0 : Int) ≤ 4294967295; decide) (by show (1 : Nat) ≤ 100000; decide) hsl (by show ([98] : List Nat).length ≤ 9223372036854775807; decide) ⟨hu32.1, by show u ≤ 4294967295; omega⟩
  have q7' : evF Y AP (k + 30) 7 [.str s, .int .i64 3, .int .i64 z, .agg [.str [98], .int .u32 u, .int .i64 9], .slice (some (V2.next, 0, 0)) 1 3 none] A = _ := q7'
  simp -implicitDefEqProofs -dsimp (maxSteps := 10000000) only [af3_l0, ↓kS, after_some, br_true, br_false, kC, ↓kQ, ↓Option.bind_some, ↓Option.map_some, ↓cond_true, ↓cond_false, evC, evOp, XO.lit, setArgs, Tr.get_set, Option.bind_some, Option.map_some, cond_true, cond_false, maxI, maxFrom, minI, minFrom, aConv, aBinE, aEq, eqScal, aUn, evRes, fin, oneOf, if_true, if_false, callee, reduceCtorEq, Nat.reduceEqDiff, List.getElem?_cons_zero, List.getElem?_cons_succ, beq_self_eq_true, gt_iff_lt, List.head?_cons, AV.undef, eq_self, ne_eq, Int.reduceLT, Int.reduceLE, Int.reduceToNat, Int.reduceEq, Int.reduceNeg, Nat.reduceAdd, Nat.reduceLT, Nat.reduceLeDiff, Nat.reduceMul, Nat.reduceSub, ↓evDraw_nil, bir, putD, evDraw, trace, List.all_cons, List.all_nil, chk, stAt, again, sameV, sameL, sameA, AV.undef, Bool.and_self, Bool.and_true, decide_eq_true_eq, List.getElem?_nil, kM, AV.cells, AV.tup, List.drop_nil, List.append_nil, rdO, St.wr, List.length_cons, List.length_nil, List.take_succ_cons, List.take_zero, List.drop_succ_cons, List.drop_zero, List.cons_append, List.nil_append, Nat.reduceMul, aFill, evParts, rep, List.replicate_succ, List.replicate_zero, List.flatten_cons, List.flatten_nil, List.append_nil, newSl, newVar, t2, t23, t24, t25, c1, hix, Nat.mul_one, Nat.zero_add, hzS, hr, hu, hb0, q6, q7, hA, q7', wi]
  refine ⟨m - 1, ⟨?_, ?_, ?_, ?_, ?_, ?_, ex.trans (x6.trans (x7.trans (eA.trans x8))), i + 1, ?_, by omega⟩, by show m - 1 < m; omega⟩ <;> simp only [Tr.get_set, Nat.reduceEqDiff, if_false, if_true, t2, t17, t18, t19, t23, t24]
structure I3b (Sb : St) (o : Nat) (m : Nat) (T : Tm) (S : St) : Prop where
  t17 : T.get 17 = some (.slice (some (o, 0, 0)) 5 1 none)
  t18 : T.get 18 = some (.int .i64 5)
  ext : Ext Sb S
  more : ∃ i : Nat, T.get 19 = some (.int .i64 i) ∧ i + m = 5
abbrev nine : List AV := [.int .i64 0, .int .i64 1, .int .i64 (-1), .int .i64 8192, .int .i64 8193, .int .i64 4294967295, .int .i64 4294967296, .int .i64 9223372036854775807, .int .i64 (-9223372036854775808)]
set_option maxHeartbeats 16000000 in
theorem round3b (k : Nat) {Sb : St} {o : Nat} (ho : o < Sb.next) (hc : ∀ i, i < 5 → ∃ s : List Nat, Sb.rd o 0 i 1 = some [.str s] ∧ (∀ x ∈ s, x < 256) ∧ s.length ≤ 1000) (m : Nat) (T : Tm) (S : St) (hI : I3b Sb o m T S) :
    Goes (evF Y AP (k + 30)) (k + 30) af3_l1 T S (Then (fun T' S' => ∃ m', I3b Sb o m' T' S' ∧ id m' < id m) fun r T' S' => r = .exit 0 ∧ I3b Sb o 0 T' S') := by
  obtain ⟨t17, t18, ex, i, t19, hm⟩ := hI
  by_cases c1 : (i : Int) < 5
  rotate_left
  · obtain rfl : m = 0 := by omega
    simp -implicitDefEqProofs -dsimp (maxSteps := 10000000) only [af3_l1, ↓kS, after_some, br_true, br_false, kC, ↓kQ, ↓Option.bind_some, ↓Option.map_some, ↓cond_true, ↓cond_false, evC, evOp, XO.lit, setArgs, Tr.get_set, Option.bind_some, Option.map_some, cond_true, cond_false, maxI, maxFrom, minI, minFrom, aConv, aBinE, aEq, eqScal, aUn, evRes, fin, oneOf, if_true, if_false, callee, reduceCtorEq, Nat.reduceEqDiff, List.getElem?_cons_zero, List.getElem?_cons_succ, beq_self_eq_true, gt_iff_lt, List.head?_cons, AV.undef, eq_self, ne_eq, Int.reduceLT, Int.reduceLE, Int.reduceToNat, Int.reduceEq, Int.reduceNeg, Nat.reduceAdd, Nat.reduceLT, Nat.reduceLeDiff, Nat.reduceMul, Nat.reduceSub, kM, AV.cells, AV.tup, List.drop_nil, List.append_nil, rdO, St.wr, List.length_cons, List.length_nil, List.take_succ_cons, List.take_zero, List.drop_succ_cons, List.drop_zero, List.cons_append, List.nil_append, Nat.reduceMul, t18, t19, c1]
    refine ⟨?_, ?_, ex, i, ?_, hm⟩ <;> simp only [Tr.get_set, Nat.reduceEqDiff, if_false, if_true, t17, t18, t19]
  obtain ⟨s, hz, hb, hs⟩ := hc i (by omega)
  have hzS : S.rd o 0 i 1 = some [.str s] := by rw [ex.rd ho]; exact hz
  have hix : ixOf (.int .i64 (i : Nat)) 5 = some i := by rw [ix_ok (by omega) (by omega)]; rfl
  have wi : IntKind.i64.wrap ((i : Int) + 1) = ((i + 1 : Nat) : Int) := w64_id (by omega) (by omega)
  obtain ⟨A, hA⟩ : ∃ A, S.alloc (.cells nine 0 0 true) = A := ⟨_, rfl⟩
  have eA : Ext S A := by rw [← hA]; exact .alloc _ _
  have nA : A.next = S.next + 1 := by rw [← hA]; rfl
  have rA : ∀ v i m, A.rd S.next v i m = rdO (.cells nine 0 0 true) v i m := rd_of (by rw [← hA, St.get_alloc, if_pos rfl])
  have hn : ∀ i, i < 9 → ∃ z, A.rd S.next 0 i 1 = some [.int .i64 z] := by
    intro i hi
    have h9 : i = 0 ∨ i = 1 ∨ i = 2 ∨ i = 3 ∨ i = 4 ∨ i = 5 ∨ i = 6 ∨ i = 7 ∨ i = 8 := by omega
    rcases h9 with rfl | rfl | rfl | rfl | rfl | rfl | rfl | rfl | rfl
    all_goals exact ⟨_, by rw [rA]; rfl⟩
  simp -implicitDefEqProofs -dsimp (maxSteps := 10000000) only [af3_l1, ↓kS, after_some, br_true, br_false, kC, ↓kQ, ↓Option.bind_some, ↓Option.map_some, ↓cond_true, ↓cond_false, evC, evOp, XO.lit, setArgs, Tr.get_set, Option.bind_some, Option.map_some, cond_true, cond_false, maxI, maxFrom, minI, minFrom, aConv, aBinE, aEq, eqScal, aUn, evRes, fin, oneOf, if_true, if_false, callee, reduceCtorEq, Nat.reduceEqDiff, List.getElem?_cons_zero, List.getElem?_cons_succ, beq_self_eq_true, gt_iff_lt, List.head?_cons, AV.undef, eq_self, ne_eq, Int.reduceLT, Int.reduceLE, Int.reduceToNat, Int.reduceEq, Int.reduceNeg, Nat.reduceAdd, Nat.reduceLT, Nat.reduceLeDiff, Nat.reduceMul, Nat.reduceSub, ↓evDraw_nil, bir, putD, evDraw, trace, List.all_cons, List.all_nil, chk, stAt, again, sameV, sameL, sameA, AV.undef, Bool.and_self, Bool.and_true, decide_eq_true_eq, List.getElem?_nil, kM, AV.cells, AV.tup, List.drop_nil, List.append_nil, rdO, St.wr, List.length_cons, List.length_nil, List.take_succ_cons, List.take_zero, List.drop_succ_cons, List.drop_zero, List.cons_append, List.nil_append, Nat.reduceMul, aFill, evParts, rep, List.replicate_succ, List.replicate_zero, List.flatten_cons, List.flatten_nil, List.append_nil, newSl, newVar, t17, t18, t19, c1, hix, Nat.mul_one, Nat.zero_add, hzS, hA]
  refine .while (I3a A s (.slice (some (o, 0, 0)) 5 1 none) (.int .i64 5) (.int .i64 i) S.next) id 9 ⟨?_, ?_, ?_, ?_, ?_, ?_, .refl A, 0, ?_, rfl⟩ (by show 9 < k + 30; omega) fun mm TT SS hh => (round3a k (by omega) hn hb hs mm TT SS hh).mono ?_
  rotate_right
  · intro r T1 U1 hq
    cases r with
    | normal => exact hq
    | ret => exact absurd hq.1 (by simp)
    | exit xx =>
      obtain ⟨hi, t2, t17', t18', t19', t23, t24, x1, _⟩ := hq
      cases hi
      simp -implicitDefEqProofs -dsimp (maxSteps := 10000000) only [↓kS, after_some, br_true, br_false, kC, ↓kQ, ↓Option.bind_some, ↓Option.map_some, ↓cond_true, ↓cond_false, evC, evOp, XO.lit, setArgs, Tr.get_set, Option.bind_some, Option.map_some, cond_true, cond_false, maxI, maxFrom, minI, minFrom, aConv, aBinE, aEq, eqScal, aUn, evRes, fin, oneOf, if_true, if_false, callee, reduceCtorEq, Nat.reduceEqDiff, List.getElem?_cons_zero, List.getElem?_cons_succ, beq_self_eq_true, gt_iff_lt, List.head?_cons, AV.undef, eq_self, ne_eq, Int.reduceLT, Int.reduceLE, Int.reduceToNat, Int.reduceEq, Int.reduceNeg, Nat.reduceAdd, Nat.reduceLT, Nat.reduceLeDiff, Nat.reduceMul, Nat.reduceSub, ↓evDraw_nil, bir, putD, evDraw, trace, List.all_cons, List.all_nil, chk, stAt, again, sameV, sameL, sameA, AV.undef, Bool.and_self, Bool.and_true, decide_eq_true_eq, List.getElem?_nil, kM, AV.cells, AV.tup, List.drop_nil, List.append_nil, rdO, St.wr, List.length_cons, List.length_nil, List.take_succ_cons, List.take_zero, List.drop_succ_cons, List.drop_zero, List.cons_append, List.nil_append, Nat.reduceMul, t19', wi]
      refine ⟨m - 1, ⟨?_, ?_, ex.trans (eA.trans x1), i + 1, ?_, by omega⟩, by show m - 1 < m; omega⟩ <;> simp only [Tr.get_set, Nat.reduceEqDiff, if_false, if_true, t17', t18']
  all_goals simp only [Tr.get_set, Nat.reduceEqDiff, if_false, if_true, t17, t18, t19]
  all_goals rfl
end Go.Proofs.YtbfkhnpginlpdaaA
