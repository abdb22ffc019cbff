/- Chapter 7: ValueNumbers. -/
import Derived.Test.YtbfkhnpginlpdaaVaP
import Derived.Test.YtbfkhnpginlpdaaVaQ
set_option linter.unusedVariables false
set_option linter.unusedSimpArgs false
set_option maxRecDepth 10000
namespace Go.Proofs.YtbfkhnpginlpdaaA
open Go.RowKit
attribute [local congr] bind_congr1 map_congr1 cond_congr1 withX_congr after_congr br_congr gd_congr

theorem four_len : count [102, 111, 117, 114] = 4 := by decide +kernel
theorem lay_four : layP [97] 1 4 = (⟨[97], 1, 4⟩, 0) := by
  unfold layP
  rw [if_neg (by decide), if_pos ⟨right1.1, by decide, by decide⟩]
abbrev fiveS : List AV := [.str [], .str [97], .str [228, 184, 150, 255], .str [108, 111], .str [49, 50, 51, 52, 53, 54, 55, 56, 57]]
set_option maxHeartbeats 16000000 in
theorem ev3 (k : Nat) (S : St) : ∃ S', evF Y AP (k + 31) 3 [] S = some (.bool true, S') := by
  suffices hh : ∃ w S', evF Y AP (k + 31) 3 [] S = some (w, S') ∧ w = .bool true by
    obtain ⟨w, S', h1, rfl⟩ := hh; exact ⟨S', h1⟩
  obtain ⟨A, hA⟩ : ∃ A, S.alloc (.cells fiveS 0 0 true) = A := ⟨_, rfl⟩
  have nA : A.next = S.next + 1 := by rw [← hA]; rfl
  have rA : ∀ v i m, A.rd S.next v i m = rdO (.cells fiveS 0 0 true) v i m := rd_of (by rw [← hA, St.get_alloc, if_pos rfl])
  have hc : ∀ i, i < 5 → ∃ s : List Nat, A.rd S.next 0 i 1 = some [.str s] ∧ (∀ x ∈ s, x < 256) ∧ s.length ≤ 1000 := by
    intro i hi
    have h5 : i = 0 ∨ i = 1 ∨ i = 2 ∨ i = 3 ∨ i = 4 := by omega
    rcases h5 with rfl | rfl | rfl | rfl | rfl
    all_goals exact ⟨_, by rw [rA]; rfl, by decide, by decide⟩
  have hal : ([97] : List Nat).length ≤ 9223372036854775807 := by decide
  refine evF_goes (af := af3) (k := k + 30) rfl rfl rfl ?_
  simp -implicitDefEqProofs -dsimp (maxSteps := 10000000) only [af3, ↓kS, after_some, br_true, br_false, kC, ↓kQ, ↓Option.bind_some, ↓Option.map_some, ↓cond_true, ↓cond_false, evC, evOp, XO.lit, setArgs, Tr.tabG, Tr.tabS, Tr.tabL, Tr.get_lf, Option.bind_some, Option.map_some, cond_true, cond_false, maxI, maxFrom, minI, minFrom, aConv, aBinE, aEq, eqScal, aUn, evRes, fin, oneOf, if_true, if_false, callee, reduceCtorEq, Nat.reduceEqDiff, List.getElem?_cons_zero, List.getElem?_cons_succ, beq_self_eq_true, gt_iff_lt, List.head?_cons, AV.undef, eq_self, ne_eq, Int.reduceLT, Int.reduceLE, Int.reduceToNat, Int.reduceEq, Int.reduceNeg, Nat.reduceAdd, Nat.reduceLT, Nat.reduceLeDiff, Nat.reduceMul, Nat.reduceSub, ↓evDraw_nil, bir, putD, evDraw, trace, List.all_cons, List.all_nil, chk, stAt, again, sameV, sameL, sameA, AV.undef, Bool.and_self, Bool.and_true, decide_eq_true_eq, List.getElem?_nil, kM, AV.cells, AV.tup, List.drop_nil, List.append_nil, rdO, St.wr, List.length_cons, List.length_nil, List.take_succ_cons, List.take_zero, List.drop_succ_cons, List.drop_zero, List.cons_append, List.nil_append, Nat.reduceMul, aFill, evParts, rep, List.replicate_succ, List.replicate_zero, List.flatten_cons, List.flatten_nil, List.append_nil, newSl, newVar, hA]
  refine .while (I3b A S.next) id 5 ⟨rfl, rfl, .refl A, 0, rfl, rfl⟩ (by show 5 < k + 30; omega) fun mm TT SS hh => (round3b k (by omega) hc mm TT SS hh).mono ?_
  intro r T1 U1 hq
  cases r with
  | normal => exact hq
  | ret => exact absurd hq.1 (by simp)
  | exit xx =>
    obtain ⟨hi, t17, t18, ex, _⟩ := hq
    cases hi
    -- two values
    obtain ⟨B1, hB1⟩ : ∃ A, U1.alloc (.cells [.iface 9 (.str [97]), .iface 3 (.int .i64 1)] 0 0 true) = A := ⟨_, rfl⟩
    have nB1 : B1.next = U1.next + 1 := by rw [← hB1]; rfl
    have rB1 : B1.rd U1.next 0 0 1 = some [.iface 9 (.str [97])] := by rw [← hB1, rd_alloc, if_pos rfl]; rfl
    obtain ⟨V1, q1, x1⟩ := T9x (S := B1) (k + 24) (o := U1.next) (v := 0) (i := 0) (c := none)
    obtain ⟨w1, W1, q1, y1⟩ := T17x (S := B1) (k + 24) (n := 2) (by decide) (by decide) rB1 (by decide) (by decide) q1 x1
    have q1 := T8x (S := B1) (k + 24) (n := 2) (by decide) (by decide) (by decide) q1
    have q1 : evF Y AP (k + 30) 8 [.slice (some (U1.next, 0, 0)) 2 1 none] B1 = _ := q1
    -- three values
    obtain ⟨B2, hB2⟩ : ∃ A, W1.alloc (.cells [.iface 3 (.int .i64 1), .iface 9 (.str [97]), .iface 3 (.int .i64 2)] 0 0 true) = A := ⟨_, rfl⟩
    have nB2 : B2.next = W1.next + 1 := by rw [← hB2]; rfl
    have rB2 : B2.rd W1.next 0 0 3 = some [.iface 3 (.int .i64 1), .iface 9 (.str [97]), .iface 3 (.int .i64 2)] := by rw [← hB2, rd_alloc, if_pos rfl]; rfl
    have rB2' : B2.rd W1.next 0 0 1 = some [.iface 3 (.int .i64 1)] := by rw [← hB2, rd_alloc, if_pos rfl]; rfl
    obtain ⟨V2, q2, x2⟩ := T9z (S := B2) (k + 24) (c := none) (by omega) rB2 (by decide) (fun X k => T20_9 k X hal) (fun X k => T20_3 k X 2)
    obtain ⟨w2, W2, q2, y2⟩ := T17x (S := B2) (k + 24) (n := 3) (by decide) (by decide) rB2' (by decide) (by decide) q2 x2
    have q2 := T8x (S := B2) (k + 24) (n := 3) (by decide) (by decide) (by decide) q2
    have q2 : evF Y AP (k + 30) 8 [.slice (some (W1.next, 0, 0)) 3 1 none] B2 = _ := q2
    -- none
    obtain ⟨p3, e3, c3, q3⟩ := T8n (S := W2) (k + 24)
    have q3 : evF Y AP (k + 30) 8 [.slice none 0 0 none] W2 = _ := q3
    -- a type of one's own
    obtain ⟨B4, hB4⟩ : ∃ A, W2.alloc (.cells [.iface 9 (.str [97]), .iface 36 (.agg [.int .i64 0]), .iface 3 (.int .i64 2)] 0 0 true) = A := ⟨_, rfl⟩
    have nB4 : B4.next = W2.next + 1 := by rw [← hB4]; rfl
    have rB4 : B4.rd W2.next 0 0 3 = some [.iface 9 (.str [97]), .iface 36 (.agg [.int .i64 0]), .iface 3 (.int .i64 2)] := by rw [← hB4, rd_alloc, if_pos rfl]; rfl
    obtain ⟨W4, q4, x4⟩ := T9w (S := B4) (k + 26) (c := none) (by omega) rB4 (fun X k => T20_o k X (by decide) (by decide) (by decide) (by decide) (by decide) (by decide)) (fun X k => T20_3 k X 2)
    have q4 : evF Y AP (k + 30) 9 [.slice (some (W2.next, 0, 0)) 3 1 none] B4 = _ := q4
    obtain ⟨C4, hC4⟩ : ∃ A, W4.alloc (.cells [.str [], .int .u32 0, .int .i64 0] 0 0 true) = A := ⟨_, rfl⟩
    have gC4 : C4.get W4.next = some (.cells [.str [], .int .u32 0, .int .i64 0] 0 0 true) := by rw [← hC4, St.get_alloc, if_pos rfl]
    obtain ⟨D4, hD4⟩ : ∃ A, C4.put W4.next (.cells (lyc zL) 0 0 true) = A := ⟨_, rfl⟩
    -- a layer
    obtain ⟨B5, hB5⟩ : ∃ A, D4.alloc (.cells [.iface 9 (.str [97]), .iface 4 (.bool true), .iface 9 (.str [102, 111, 117, 114])] 0 0 true) = A := ⟨_, rfl⟩
    have nB5 : B5.next = D4.next + 1 := by rw [← hB5]; rfl
    have rB5 : B5.rd D4.next 0 0 3 = some [.iface 9 (.str [97]), .iface 4 (.bool true), .iface 9 (.str [102, 111, 117, 114])] := by rw [← hB5, rd_alloc, if_pos rfl]; rfl
    obtain ⟨W5, q5, x5⟩ := T9b (S := B5) (k + 26) (c := none) (n := 1) (h := 4) (by omega) rB5 hal (fun X k => by have := T20_4 k X true; rwa [if_pos rfl] at this) (fun X k => by have := T20_9 k X (s := [102, 111, 117, 114]) (by decide); rwa [four_len] at this)
    rw [lay_four] at q5
    have q5 : evF Y AP (k + 30) 9 [.slice (some (D4.next, 0, 0)) 3 1 none] B5 = some (.tuple [.agg [.str [97], .int .u32 1, .int .i64 4], .int .i64 0], W5) := q5
    obtain ⟨C5, hC5⟩ : ∃ A, W5.alloc (.cells [.str [], .int .u32 0, .int .i64 0] 0 0 true) = A := ⟨_, rfl⟩
    have gC5 : C5.get W5.next = some (.cells [.str [], .int .u32 0, .int .i64 0] 0 0 true) := by rw [← hC5, St.get_alloc, if_pos rfl]
    obtain ⟨D5, hD5⟩ : ∃ A, C5.put W5.next (.cells [.str [97], .int .u32 1, .int .i64 4] 0 0 true) = A := ⟨_, rfl⟩
    have gD5 : D5.get W5.next = some (.cells [.str [97], .int .u32 1, .int .i64 4] 0 0 true) := by rw [← hD5, St.get_put, if_pos rfl]
    have nD5 : D5.next = W5.next + 1 := by rw [← hD5, ← hC5]; rfl
    -- a list of texts
    obtain ⟨B6, hB6⟩ : ∃ A, D5.alloc (.cells [.str [97]] 0 0 true) = A := ⟨_, rfl⟩
    have eB6 : Ext D5 B6 := by rw [← hB6]; exact .alloc _ _
    obtain ⟨B7, hB7⟩ : ∃ A, B6.alloc (.cells [.iface 22 (.slice (some (D5.next, 0, 0)) 1 1 none)] 0 0 true) = A := ⟨_, rfl⟩
    have eB7 : Ext B6 B7 := by rw [← hB7]; exact .alloc _ _
    have nB7 : B7.next = B6.next + 1 := by rw [← hB7]; rfl
    have rB7 : B7.rd B6.next 0 0 1 = some [.iface 22 (.slice (some (D5.next, 0, 0)) 1 1 none)] := by rw [← hB7, rd_alloc, if_pos rfl]; rfl
    obtain ⟨V7, q7, x7⟩ := T9y (S := B7) (k + 24) (c := none) (by omega) rB7 (by decide)
    obtain ⟨w7, W7, q7, y7⟩ := T17x (S := B7) (k + 24) (n := 1) (by decide) (by decide) rB7 (by decide) (by decide) q7 x7
    have q7 := T8x (S := B7) (k + 24) (n := 1) (by decide) (by decide) (by decide) q7
    have q7 : evF Y AP (k + 30) 8 [.slice (some (B6.next, 0, 0)) 1 1 none] B7 = _ := q7
    have r13 : ∀ v i m, W7.rd W5.next v i m = rdO (.cells [.str [97], .int .u32 1, .int .i64 4] 0 0 true) v i m := rd_of ((eB6.trans (eB7.trans y7)).get (by omega) gD5)
    have es : eqFields [.str [97], .int .u32 1, .int .i64 4] [.str [97], .int .u32 1, .int .i64 4] [(0, .str), (1, .num), (2, .num)] = some true := eqF ⟨[97], 1, 4⟩
    have q10 : evF Y AP (k + 30) 10 [] W7 = _ := y10 (k + 29) W7
    simp -implicitDefEqProofs -dsimp (maxSteps := 10000000) only [↓kS, after_some, br_true, br_false, kC, ↓kQ, ↓Option.bind_some, ↓Option.map_some, ↓cond_true, ↓cond_false, evC, evOp, XO.lit, setArgs, Tr.get_set, Option.bind_some, Option.map_some, cond_true, cond_false, maxI, maxFrom, minI, minFrom, aConv, aBinE, aEq, eqScal, aUn, evRes, fin, oneOf, if_true, if_false, callee, reduceCtorEq, Nat.reduceEqDiff, List.getElem?_cons_zero, List.getElem?_cons_succ, beq_self_eq_true, gt_iff_lt, List.head?_cons, AV.undef, eq_self, ne_eq, Int.reduceLT, Int.reduceLE, Int.reduceToNat, Int.reduceEq, Int.reduceNeg, Nat.reduceAdd, Nat.reduceLT, Nat.reduceLeDiff, Nat.reduceMul, Nat.reduceSub, ↓evDraw_nil, bir, putD, evDraw, trace, List.all_cons, List.all_nil, chk, stAt, again, sameV, sameL, sameA, AV.undef, Bool.and_self, Bool.and_true, decide_eq_true_eq, List.getElem?_nil, kM, AV.cells, AV.tup, List.drop_nil, List.append_nil, rdO, St.wr, List.length_cons, List.length_nil, List.take_succ_cons, List.take_zero, List.drop_succ_cons, List.drop_zero, List.cons_append, List.nil_append, Nat.reduceMul, aFill, evParts, rep, List.replicate_succ, List.replicate_zero, List.flatten_cons, List.flatten_nil, List.append_nil, newSl, newVar, hB1, q1, hB2, q2, q3, hB4, q4, hC4, gC4, hD4, hB5, q5, hC5, gC5, hD5, hB6, hB7, q7, r13, es, aStr, q10, Int.natCast_zero, Nat.zero_le]
    exact ⟨_, _, rfl, rfl⟩
theorem law3 : ∃ S', evF Y AP 31 3 [] S0 = some (.bool true, S') := ev3 0 S0
end Go.Proofs.YtbfkhnpginlpdaaA
