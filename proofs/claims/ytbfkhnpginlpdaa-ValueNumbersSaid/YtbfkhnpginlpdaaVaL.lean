/- Chapter 7: layers. -/
import Derived.Test.YtbfkhnpginlpdaaVaK
set_option linter.unusedVariables false
set_option linter.unusedSimpArgs false
set_option maxRecDepth 10000
namespace Go.Proofs.YtbfkhnpginlpdaaA
open Go.RowKit
attribute [local congr] bind_congr1 map_congr1 cond_congr1 withX_congr after_congr br_congr gd_congr

theorem lays_why (L : List Ly) (y z : Ly × Int) : lays L y z = if why1 (why1 (whyL L) y.2) z.2 = 0 then (if 3 < L.length + 2 then ([], 3) else (L ++ [y.1] ++ [z.1], 0)) else ([], why1 (why1 (whyL L) y.2) z.2) := by
  unfold lays
  cases h : L.all okL with
  | false =>
    have w : whyL L = 12 := by unfold whyL; rw [h]; rfl
    have w2 : why1 (why1 (whyL L) y.2) z.2 = 12 := by rw [w]; rfl
    rw [w2, if_pos rfl, if_neg (by decide)]
  | true =>
    have w : whyL L = 0 := by unfold whyL; rw [h]; rfl
    have w1 : why1 (whyL L) y.2 = y.2 := by rw [w]; rfl
    rw [w1, if_neg (by decide)]
    by_cases hy : y.2 = 0
    · have w2 : why1 y.2 z.2 = z.2 := by rw [hy]; rfl
      rw [w2, if_neg (fun h => h hy)]
      by_cases hz : z.2 = 0
      · rw [if_neg (fun h => h hz), if_pos hz]
      · rw [if_pos hz, if_neg hz]
    · have w2 : why1 y.2 z.2 = y.2 := if_neg hy
      rw [w2, if_pos hy, if_neg hy]
set_option maxHeartbeats 32000000 in
/-- layers -/
theorem T7 (k : Nat) {S : St} {p : Option (Nat × Nat × Nat)} {e : Nat} {L : List Ly} {s : List Nat} {n h : Int} {x : Ly} (hL : Lr S p e L) (hLu : ∀ y ∈ L, 0 ≤ y.u ∧ y.u ≤ 4294967295) (hml : L.length ≤ 100000)
    (hs : s.length ≤ 9223372036854775807) (hxs : x.r.length ≤ 9223372036854775807) (hxu : 0 ≤ x.u ∧ x.u ≤ 4294967295) :
    ∃ S', evF Y AP (k + L.length + 13) 7 [.str s, .int .i64 n, .int .i64 h, .agg (lyc x), .slice p L.length e none] S = some (.bool true, S') ∧ Ext S S' := by
  suffices hh : ∃ w S', evF Y AP (k + L.length + 13) 7 [.str s, .int .i64 n, .int .i64 h, .agg (lyc x), .slice p L.length e none] S = some (w, S') ∧ w = .bool true ∧ Ext S S' by
    obtain ⟨w, S', h1, rfl, h2⟩ := hh; exact ⟨S', h1, h2⟩
  obtain ⟨A1, hA1⟩ : ∃ A, S.alloc (.cells (lyc x) 0 0 true) = A := ⟨_, rfl⟩
  have eA1 : Ext S A1 := by rw [← hA1]; exact .alloc _ _
  have nA1 : A1.next = S.next + 1 := by rw [← hA1]; rfl
  have gA1 : A1.get S.next = some (.cells (lyc x) 0 0 true) := by rw [← hA1, St.get_alloc, if_pos rfl]
  obtain ⟨A2, hA2⟩ : ∃ A, A1.alloc (.cells [.iface 9 (.str s), .iface 2 (.int .i64 n), .iface 2 (.int .i64 h)] 0 0 true) = A := ⟨_, rfl⟩
  have eA2 : Ext A1 A2 := by rw [← hA2]; exact .alloc _ _
  have nA2 : A2.next = A1.next + 1 := by rw [← hA2]; rfl
  have rA2 : A2.rd A1.next 0 0 3 = some [.iface 9 (.str s), .iface 2 (.int .i64 n), .iface 2 (.int .i64 h)] := by rw [← hA2, rd_alloc, if_pos rfl]; rfl
  obtain ⟨S1, q1, x1⟩ := T9b (k + L.length + 8) (c := none) (by omega) rA2 hs (fun X k => T20_2 k X n) (fun X k => T20_2 k X h)
  obtain ⟨y, hy⟩ : ∃ y, layP s n h = y := ⟨_, rfl⟩
  rw [hy] at q1
  have q1 : evF Y AP (k + L.length + 12) 9 [.slice (some (A1.next, 0, 0)) 3 1 none] A2 = _ := q1
  obtain ⟨A3, hA3⟩ : ∃ A, S1.alloc (.cells [.str [], .int .u32 0, .int .i64 0] 0 0 true) = A := ⟨_, rfl⟩
  have gA3 : A3.get S1.next = some (.cells [.str [], .int .u32 0, .int .i64 0] 0 0 true) := by rw [← hA3, St.get_alloc, if_pos rfl]
  have eA3 : Ext S1 A3 := by rw [← hA3]; exact .alloc _ _
  obtain ⟨A4, hA4⟩ : ∃ A, A3.put S1.next (.cells (lyc y.1) 0 0 true) = A := ⟨_, rfl⟩
  have eA4 : Ext S1 A4 := by rw [← hA4]; exact eA3.then_put (Nat.le_refl _) _
  have nA4 : A4.next = S1.next + 1 := by rw [← hA4, ← hA3]; rfl
  have gA4 : A4.get S1.next = some (.cells (lyc y.1) 0 0 true) := by rw [← hA4, St.get_put, if_pos rfl]
  obtain ⟨S2, q2, x2⟩ := T16 (k + L.length + 9) (S := A4) (n := n) (h := h) hs
  rw [hy] at q2
  have q2 : evF Y AP (k + L.length + 12) 16 [.str s, .int .i64 n, .int .i64 h] A4 = _ := q2
  obtain ⟨A5, hA5⟩ : ∃ A, S2.alloc (.cells [.str [], .int .u32 0, .int .i64 0] 0 0 true) = A := ⟨_, rfl⟩
  have gA5 : A5.get S2.next = some (.cells [.str [], .int .u32 0, .int .i64 0] 0 0 true) := by rw [← hA5, St.get_alloc, if_pos rfl]
  have eA5 : Ext S2 A5 := by rw [← hA5]; exact .alloc _ _
  obtain ⟨A6, hA6⟩ : ∃ A, A5.put S2.next (.cells (lyc y.1) 0 0 true) = A := ⟨_, rfl⟩
  have eA6 : Ext S2 A6 := by rw [← hA6]; exact eA5.then_put (Nat.le_refl _) _
  have nA6 : A6.next = S2.next + 1 := by rw [← hA6, ← hA5]; rfl
  have gA6 : A6.get S2.next = some (.cells (lyc y.1) 0 0 true) := by rw [← hA6, St.get_put, if_pos rfl]
  have xS2 : S2.next ≥ S1.next + 1 := by have := x2.next; omega
  have rf1 : ∀ v i m, A6.rd S1.next v i m = rdO (.cells (lyc y.1) 0 0 true) v i m := rd_of ((x2.trans eA6).get (by omega) gA4)
  have rf2 : ∀ v i m, A6.rd S2.next v i m = rdO (.cells (lyc y.1) 0 0 true) v i m := rd_of gA6
  have e06 : Ext A1 A6 := eA2.trans (x1.trans (eA4.trans (x2.trans eA6)))
  have rx6 : ∀ v i m, A6.rd S.next v i m = rdO (.cells (lyc x) 0 0 true) v i m := rd_of (e06.get (by omega) gA1)
  -- of a layer
  obtain ⟨A7, hA7⟩ : ∃ A, A6.alloc (.cells [.iface 28 (.agg (lyc x))] 0 0 true) = A := ⟨_, rfl⟩
  have eA7 : Ext A6 A7 := by rw [← hA7]; exact .alloc _ _
  have nA7 : A7.next = A6.next + 1 := by rw [← hA7]; rfl
  have rA7 : A7.rd A6.next 0 0 1 = some [.iface 28 (.agg (lyc x))] := by rw [← hA7, rd_alloc, if_pos rfl]; rfl
  obtain ⟨S3, q3, x3⟩ := T9a (k + L.length + 8) (c := none) (by omega) rA7 hxs hxu
  obtain ⟨z, hz⟩ : ∃ z, layP x.r x.u x.h = z := ⟨_, rfl⟩
  rw [hz] at q3
  have q3 : evF Y AP (k + L.length + 12) 9 [.slice (some (A6.next, 0, 0)) 1 1 none] A7 = _ := q3
  obtain ⟨A8, hA8⟩ : ∃ A, S3.alloc (.cells [.str [], .int .u32 0, .int .i64 0] 0 0 true) = A := ⟨_, rfl⟩
  have gA8 : A8.get S3.next = some (.cells [.str [], .int .u32 0, .int .i64 0] 0 0 true) := by rw [← hA8, St.get_alloc, if_pos rfl]
  have eA8 : Ext S3 A8 := by rw [← hA8]; exact .alloc _ _
  obtain ⟨A9, hA9⟩ : ∃ A, A8.put S3.next (.cells (lyc z.1) 0 0 true) = A := ⟨_, rfl⟩
  have eA9 : Ext S3 A9 := by rw [← hA9]; exact eA8.then_put (Nat.le_refl _) _
  have nA9 : A9.next = S3.next + 1 := by rw [← hA9, ← hA8]; rfl
  have gA9 : A9.get S3.next = some (.cells (lyc z.1) 0 0 true) := by rw [← hA9, St.get_put, if_pos rfl]
  have e69 : Ext A6 A9 := eA7.trans (x3.trans eA9)
  have rx9 : ∀ v i m, A9.rd S.next v i m = rdO (.cells (lyc x) 0 0 true) v i m := rd_of ((e06.trans e69).get (by omega) gA1)
  obtain ⟨S4, q4, x4⟩ := T16 (k + L.length + 9) (S := A9) (n := x.u) (h := x.h) hxs
  rw [hz] at q4
  have q4 : evF Y AP (k + L.length + 12) 16 [.str x.r, .int .i64 x.u, .int .i64 x.h] A9 = _ := q4
  have wu : IntKind.i64.wrap x.u = x.u := w64_id (by omega) (by omega)
  obtain ⟨A10, hA10⟩ : ∃ A, S4.alloc (.cells [.str [], .int .u32 0, .int .i64 0] 0 0 true) = A := ⟨_, rfl⟩
  have gA10 : A10.get S4.next = some (.cells [.str [], .int .u32 0, .int .i64 0] 0 0 true) := by rw [← hA10, St.get_alloc, if_pos rfl]
  have eA10 : Ext S4 A10 := by rw [← hA10]; exact .alloc _ _
  obtain ⟨A11, hA11⟩ : ∃ A, A10.put S4.next (.cells (lyc z.1) 0 0 true) = A := ⟨_, rfl⟩
  have eA11 : Ext S4 A11 := by rw [← hA11]; exact eA10.then_put (Nat.le_refl _) _
  have nA11 : A11.next = S4.next + 1 := by rw [← hA11, ← hA10]; rfl
  have gA11 : A11.get S4.next = some (.cells (lyc z.1) 0 0 true) := by rw [← hA11, St.get_put, if_pos rfl]
  have xS4 : S4.next ≥ S3.next + 1 := by have := x4.next; omega
  have rf3 : ∀ v i m, A11.rd S3.next v i m = rdO (.cells (lyc z.1) 0 0 true) v i m := rd_of ((x4.trans eA11).get (by omega) gA9)
  have rf4 : ∀ v i m, A11.rd S4.next v i m = rdO (.cells (lyc z.1) 0 0 true) v i m := rd_of gA11
  have e611 : Ext A6 A11 := e69.trans (x4.trans eA11)
  have rx11 : ∀ v i m, A11.rd S.next v i m = rdO (.cells (lyc x) 0 0 true) v i m := rd_of ((e06.trans e611).get (by omega) gA1)
  have eS11 : Ext S A11 := eA1.trans (e06.trans e611)
  -- of all
  obtain ⟨A12, hA12⟩ : ∃ A, A11.alloc (.cells [.iface 29 (.slice p L.length e none), .iface 9 (.str s), .iface 2 (.int .i64 n), .iface 2 (.int .i64 h), .iface 28 (.agg (lyc x))] 0 0 true) = A := ⟨_, rfl⟩
  have eA12 : Ext A11 A12 := by rw [← hA12]; exact .alloc _ _
  have nA12 : A12.next = A11.next + 1 := by rw [← hA12]; rfl
  have rA12 : A12.rd A11.next 0 0 5 = some [.iface 29 (.slice p L.length e none), .iface 9 (.str s), .iface 2 (.int .i64 n), .iface 2 (.int .i64 h), .iface 28 (.agg (lyc x))] := by rw [← hA12, rd_alloc, if_pos rfl]; rfl
  obtain ⟨p8, e8, c8, S5, q8, x5, h8⟩ := T8g k (o := A11.next) (v := 0) (j := 0) (by omega) rA12 (hL.ext (eS11.trans eA12)) hml hs (fun X k => T20_2 k X n) (fun X k => T20_2 k X h) hxs hxu
  rw [hy, hz] at q8 h8
  obtain ⟨out, hout⟩ : ∃ out, lays L y z = out := ⟨_, rfl⟩
  rw [hout] at q8 h8
  rw [lays_why] at hout
  obtain ⟨A13, hA13⟩ : ∃ A, S5.alloc (.cells [] 0 0 true) = A := ⟨_, rfl⟩
  have eA13 : Ext S5 A13 := by rw [← hA13]; exact .alloc _ _
  have nA13 : A13.next = S5.next + 1 := by rw [← hA13]; rfl
  have gA13 : A13.get S5.next = some (.cells [] 0 0 true) := by rw [← hA13, St.get_alloc, if_pos rfl]
  have G0 : Lg S5 A13 (some (S5.next, 0, 0)) 3 [] := ⟨⟨.inr rfl, rfl, .inr ⟨S5.next, 0, 0, rfl, by omega, gA13, Nat.le_refl _⟩⟩, eA13, fun o v i hp => by cases hp; exact Nat.le_refl _⟩
  obtain ⟨p9, e9, S6, qa, G1⟩ := G0.app (M := L) (by simp only [List.length_nil]; omega)
  rw [List.nil_append] at qa G1
  have qa : aAppend 3 32 A13 (.slice (some (S5.next, 0, 0)) 0 3 none) L.length (lcs L) = _ := qa
  have eS13 : Ext S A13 := eS11.trans (eA12.trans (x5.trans eA13))
  have x6 : Ext S5 S6 := G1.ext
  have eS6 : Ext S S6 := eS11.trans (eA12.trans (x5.trans x6))
  have hL13 := hL.ext eS13
  have esy := eqF y.1
  have esz := eqF z.1
  have hmx := hL.mx
  have hmL : ((0 : Nat) : Int) = 0 := rfl
  refine evF_goes (af := af7) (k := k + L.length + 12) rfl rfl rfl ?_
  rcases p with _ | ⟨ox, vx, ix⟩
  case' none =>
    have hzz := hL13.nil rfl
    have qa0 : aAppend 3 32 A13 (.slice (some (S5.next, 0, 0)) 0 3 none) 0 [] = some (.slice p9 L.length e9 none, S6) := by rw [hzz] at qa ⊢; exact qa
    simp -implicitDefEqProofs -dsimp (maxSteps := 10000000) only [af7, ↓kS, after_some, br_true, br_false, kC, ↓kQ, ↓Option.bind_some, ↓Option.map_some, ↓cond_true, ↓cond_false, evC, evOp, XO.lit, setArgs, Tr.tabG, Tr.tabS, Tr.tabL, Tr.get_lf, Option.bind_some, Option.map_some, cond_true, cond_false, maxI, maxFrom, minI, minFrom, aConv, aBinE, aEq, eqScal, aUn, evRes, fin, oneOf, if_true, if_false, callee, reduceCtorEq, Nat.reduceEqDiff, List.getElem?_cons_zero, List.getElem?_cons_succ, beq_self_eq_true, gt_iff_lt, List.head?_cons, AV.undef, eq_self, ne_eq, Int.reduceLT, Int.reduceLE, Int.reduceToNat, Int.reduceEq, Int.reduceNeg, Nat.reduceAdd, Nat.reduceLT, Nat.reduceLeDiff, Nat.reduceMul, Nat.reduceSub, ↓evDraw_nil, bir, putD, evDraw, trace, List.all_cons, List.all_nil, chk, stAt, again, sameV, sameL, sameA, AV.undef, Bool.and_self, Bool.and_true, decide_eq_true_eq, List.getElem?_nil, kM, AV.cells, AV.tup, List.drop_nil, List.append_nil, rdO, St.wr, List.length_cons, List.length_nil, List.take_succ_cons, List.take_zero, List.drop_succ_cons, List.drop_zero, List.cons_append, List.nil_append, Nat.reduceMul, aFill, evParts, rep, List.replicate_succ, List.replicate_zero, List.flatten_cons, List.flatten_nil, List.append_nil, newSl, newVar, evOpt, hA1, hA2, q1, hA3, gA3, hA4, q2, hA5, gA5, hA6, rf1, rf2, esy, aStr, rx6, hA7, q3, hA8, gA8, hA9, rx9, wu, q4, hA10, gA10, hA11, rf3, rf4, esz, rx11, hA12, q8, hA13, qa0, hmx]
  case' some =>
    obtain rfl := hL13.ez.resolve_left (by simp)
    have hrx := (hL13.at_ ox vx ix rfl).2
    simp -implicitDefEqProofs -dsimp (maxSteps := 10000000) only [af7, ↓kS, after_some, br_true, br_false, kC, ↓kQ, ↓Option.bind_some, ↓Option.map_some, ↓cond_true, ↓cond_false, evC, evOp, XO.lit, setArgs, Tr.tabG, Tr.tabS, Tr.tabL, Tr.get_lf, Option.bind_some, Option.map_some, cond_true, cond_false, maxI, maxFrom, minI, minFrom, aConv, aBinE, aEq, eqScal, aUn, evRes, fin, oneOf, if_true, if_false, callee, reduceCtorEq, Nat.reduceEqDiff, List.getElem?_cons_zero, List.getElem?_cons_succ, beq_self_eq_true, gt_iff_lt, List.head?_cons, AV.undef, eq_self, ne_eq, Int.reduceLT, Int.reduceLE, Int.reduceToNat, Int.reduceEq, Int.reduceNeg, Nat.reduceAdd, Nat.reduceLT, Nat.reduceLeDiff, Nat.reduceMul, Nat.reduceSub, ↓evDraw_nil, bir, putD, evDraw, trace, List.all_cons, List.all_nil, chk, stAt, again, sameV, sameL, sameA, AV.undef, Bool.and_self, Bool.and_true, decide_eq_true_eq, List.getElem?_nil, kM, AV.cells, AV.tup, List.drop_nil, List.append_nil, rdO, St.wr, List.length_cons, List.length_nil, List.take_succ_cons, List.take_zero, List.drop_succ_cons, List.drop_zero, List.cons_append, List.nil_append, Nat.reduceMul, aFill, evParts, rep, List.replicate_succ, List.replicate_zero, List.flatten_cons, List.flatten_nil, List.append_nil, newSl, newVar, evOpt, hA1, hA2, q1, hA3, gA3, hA4, q2, hA5, gA5, hA6, rf1, rf2, esy, aStr, rx6, hA7, q3, hA8, gA8, hA9, rx9, wu, q4, hA10, gA10, hA11, rf3, rf4, esz, rx11, hA12, q8, hA13, hrx, qa, hmx]
  all_goals
    refine .while (I72 S6 (.ptr (some ⟨S2.next, 0, 0, 3⟩)) (.int .i64 y.2) (.ptr (some ⟨S4.next, 0, 0, 3⟩)) (.int .i64 z.2) (.slice p8 out.1.length e8 c8) (.int .i64 out.2) (.slice p9 L.length e9 none) _ _ L) id L.length ⟨rfl, rfl, rfl, rfl, rfl, rfl, rfl, rfl, rfl, .refl S6, 0, rfl, by omega, rfl⟩ (by show L.length < k + L.length + 12; omega) fun mm TT SS hh => (round72 (k + L.length + 9) (hL.ext eS6) hLu mm TT SS hh).mono ?_
    intro r T1 U1 hq
    cases r with
    | normal => exact hq
    | ret => exact absurd hq.1 (by simp)
    | exit xx =>
      obtain ⟨hi, t13, t14, t17, t18, t19, t20, t21, t100, t101, xU1, i, t102, hm, t22⟩ := hq
      cases hi
      obtain rfl : i = L.length := by omega
      rw [List.take_length] at t22
      obtain ⟨w, hw⟩ : ∃ w, whyL L = w := ⟨_, rfl⟩
      rw [hw] at t22 hout
      obtain ⟨B1, hB1⟩ : ∃ A, U1.alloc (.cells [.int .i64 y.2, .int .i64 z.2] 0 0 true) = A := ⟨_, rfl⟩
      have eB1 : Ext U1 B1 := by rw [← hB1]; exact .alloc _ _
      have nB1 : B1.next = U1.next + 1 := by rw [← hB1]; rfl
      have rB1 : ∀ v i m, B1.rd U1.next v i m = rdO (.cells [.int .i64 y.2, .int .i64 z.2] 0 0 true) v i m := rd_of (by rw [← hB1, St.get_alloc, if_pos rfl])
      simp -implicitDefEqProofs -dsimp (maxSteps := 10000000) only [↓kS, after_some, br_true, br_false, kC, ↓kQ, ↓Option.bind_some, ↓Option.map_some, ↓cond_true, ↓cond_false, evC, evOp, XO.lit, setArgs, Tr.get_set, Option.bind_some, Option.map_some, cond_true, cond_false, maxI, maxFrom, minI, minFrom, aConv, aBinE, aEq, eqScal, aUn, evRes, fin, oneOf, if_true, if_false, callee, reduceCtorEq, Nat.reduceEqDiff, List.getElem?_cons_zero, List.getElem?_cons_succ, beq_self_eq_true, gt_iff_lt, List.head?_cons, AV.undef, eq_self, ne_eq, Int.reduceLT, Int.reduceLE, Int.reduceToNat, Int.reduceEq, Int.reduceNeg, Nat.reduceAdd, Nat.reduceLT, Nat.reduceLeDiff, Nat.reduceMul, Nat.reduceSub, ↓evDraw_nil, bir, putD, evDraw, trace, List.all_cons, List.all_nil, chk, stAt, again, sameV, sameL, sameA, AV.undef, Bool.and_self, Bool.and_true, decide_eq_true_eq, List.getElem?_nil, kM, AV.cells, AV.tup, List.drop_nil, List.append_nil, rdO, St.wr, List.length_cons, List.length_nil, List.take_succ_cons, List.take_zero, List.drop_succ_cons, List.drop_zero, List.cons_append, List.nil_append, Nat.reduceMul, aFill, evParts, rep, List.replicate_succ, List.replicate_zero, List.flatten_cons, List.flatten_nil, List.append_nil, newSl, newVar, t14, t18, t22, hB1]
      refine .while (I71 B1 (.ptr (some ⟨S2.next, 0, 0, 3⟩)) (.ptr (some ⟨S4.next, 0, 0, 3⟩)) (.slice p8 out.1.length e8 c8) (.int .i64 out.2) (.slice p9 L.length e9 none) U1.next w y.2 z.2) id 2 ⟨rfl, ?_, ?_, ?_, ?_, ?_, ?_, ?_, 0, ?_, rfl, ?_⟩ (by show 2 < k + L.length + 12; omega) fun mm TT SS hh => (round71 (k + L.length + 9) rB1 mm TT SS hh).mono ?_
      rotate_right
      · intro r T2 U2 hq
        cases r with
        | normal => exact hq
        | ret => exact absurd hq.1 (by simp)
        | exit xx =>
          obtain ⟨hi, hst, t13, t17, t19, t20, t21, t127, t128, i, t129, hm, t22⟩ := hq
          cases hi
          subst hst
          obtain rfl : i = 2 := by omega
          have t22 : T2.get 22 = some (.int .i64 (why1 (why1 w y.2) z.2)) := t22
          obtain ⟨w3, hw3⟩ : ∃ w3, why1 (why1 w y.2) z.2 = w3 := ⟨_, rfl⟩
          rw [hw3] at t22 hout
          have e6B : Ext S6 U2 := xU1.trans eB1
          have rg2 : ∀ v i m, U2.rd S2.next v i m = rdO (.cells (lyc y.1) 0 0 true) v i m := rd_of ((e611.trans (eA12.trans (x5.trans (x6.trans e6B)))).get (by omega) gA6)
          have rg4 : ∀ v i m, U2.rd S4.next v i m = rdO (.cells (lyc z.1) 0 0 true) v i m := rd_of ((eA12.trans (x5.trans (x6.trans e6B))).get (by omega) gA11)
          obtain ⟨B2, hB2⟩ : ∃ A, U2.alloc (.cells [.str y.1.r, .int .u32 y.1.u, .int .i64 y.1.h, .str z.1.r, .int .u32 z.1.u, .int .i64 z.1.h] 0 0 true) = A := ⟨_, rfl⟩
          have eB2 : Ext U2 B2 := by rw [← hB2]; exact .alloc _ _
          have rB2 : B2.rd U2.next 0 0 6 = some [.str y.1.r, .int .u32 y.1.u, .int .i64 y.1.h, .str z.1.r, .int .u32 z.1.u, .int .i64 z.1.h] := by rw [← hB2, rd_alloc, if_pos rfl]; rfl
          obtain ⟨pA, eA, S7, qb, G2⟩ := (G1.more (e6B.trans eB2)).app (M := [y.1, z.1]) (by simp only [List.length_cons, List.length_nil]; omega)
          obtain ⟨all, hall⟩ : ∃ all, L ++ [y.1, z.1] = all := ⟨_, rfl⟩
          have hall' : L ++ [y.1] ++ [z.1] = all := by rw [← hall, List.append_assoc]; rfl
          have hll : all.length = L.length + 2 := by rw [← hall, List.length_append]; rfl
          rw [hall] at qb G2
          rw [hall'] at hout
          have qb : aAppend 3 32 B2 (.slice p9 L.length e9 none) 2 [.str y.1.r, .int .u32 y.1.u, .int .i64 y.1.h, .str z.1.r, .int .u32 z.1.u, .int .i64 z.1.h] = some (.slice pA all.length eA none, S7) := qb
          have hmxa : all.length ≤ 9223372036854775807 := by omega
          have x7 : Ext S5 S7 := G2.ext
          have eS7 : Ext S S7 := eS11.trans (eA12.trans (x5.trans x7))
          by_cases c3 : w3 = 0
          · rw [if_pos c3] at hout
            by_cases c4 : 3 < all.length
            · have c4' : (3 : Int) < (all.length : Int) := by omega
              rw [if_pos (by omega)] at hout
              subst hout
              simp -implicitDefEqProofs -dsimp (maxSteps := 10000000) only [↓kS, after_some, br_true, br_false, kC, ↓kQ, ↓Option.bind_some, ↓Option.map_some, ↓cond_true, ↓cond_false, evC, evOp, XO.lit, setArgs, Tr.get_set, Option.bind_some, Option.map_some, cond_true, cond_false, maxI, maxFrom, minI, minFrom, aConv, aBinE, aEq, eqScal, aUn, evRes, fin, oneOf, if_true, if_false, callee, reduceCtorEq, Nat.reduceEqDiff, List.getElem?_cons_zero, List.getElem?_cons_succ, beq_self_eq_true, gt_iff_lt, List.head?_cons, AV.undef, eq_self, ne_eq, Int.reduceLT, Int.reduceLE, Int.reduceToNat, Int.reduceEq, Int.reduceNeg, Nat.reduceAdd, Nat.reduceLT, Nat.reduceLeDiff, Nat.reduceMul, Nat.reduceSub, ↓evDraw_nil, bir, putD, evDraw, trace, List.all_cons, List.all_nil, chk, stAt, again, sameV, sameL, sameA, AV.undef, Bool.and_self, Bool.and_true, decide_eq_true_eq, List.getElem?_nil, kM, AV.cells, AV.tup, List.drop_nil, List.append_nil, rdO, St.wr, List.length_cons, List.length_nil, List.take_succ_cons, List.take_zero, List.drop_succ_cons, List.drop_zero, List.cons_append, List.nil_append, Nat.reduceMul, aFill, evParts, rep, List.replicate_succ, List.replicate_zero, List.flatten_cons, List.flatten_nil, List.append_nil, newSl, newVar, t13, t17, t19, t20, t21, t22, rg2, rg4, hB2, rB2, qb, c3, hmxa, c4', List.length_nil, Nat.zero_le, Int.natCast_zero]
              exact ⟨_, _, rfl, rfl, eS7⟩
            · have c4' : ¬ (3 : Int) < (all.length : Int) := by omega
              rw [if_neg (by omega)] at hout
              subst hout
              have hst : ∀ u ∈ all, u.r.length ≤ 9223372036854775807 := by
                intro u hu
                rw [← hall] at hu
                rcases List.mem_append.1 hu with hu | hu
                · exact hL.st u hu
                · rcases List.mem_cons.1 hu with rfl | hu
                  · rw [← hy]; exact layP_len hs
                  · rw [List.mem_singleton] at hu; rw [hu, ← hz]; exact layP_len hxs
              have hA := Lr.of_vec G2.vec (by omega) hst
              simp -implicitDefEqProofs -dsimp (maxSteps := 10000000) only [↓kS, after_some, br_true, br_false, kC, ↓kQ, ↓Option.bind_some, ↓Option.map_some, ↓cond_true, ↓cond_false, evC, evOp, XO.lit, setArgs, Tr.get_set, Option.bind_some, Option.map_some, cond_true, cond_false, maxI, maxFrom, minI, minFrom, aConv, aBinE, aEq, eqScal, aUn, evRes, fin, oneOf, if_true, if_false, callee, reduceCtorEq, Nat.reduceEqDiff, List.getElem?_cons_zero, List.getElem?_cons_succ, beq_self_eq_true, gt_iff_lt, List.head?_cons, AV.undef, eq_self, ne_eq, Int.reduceLT, Int.reduceLE, Int.reduceToNat, Int.reduceEq, Int.reduceNeg, Nat.reduceAdd, Nat.reduceLT, Nat.reduceLeDiff, Nat.reduceMul, Nat.reduceSub, ↓evDraw_nil, bir, putD, evDraw, trace, List.all_cons, List.all_nil, chk, stAt, again, sameV, sameL, sameA, AV.undef, Bool.and_self, Bool.and_true, decide_eq_true_eq, List.getElem?_nil, kM, AV.cells, AV.tup, List.drop_nil, List.append_nil, rdO, St.wr, List.length_cons, List.length_nil, List.take_succ_cons, List.take_zero, List.drop_succ_cons, List.drop_zero, List.cons_append, List.nil_append, Nat.reduceMul, aFill, evParts, rep, List.replicate_succ, List.replicate_zero, List.flatten_cons, List.flatten_nil, List.append_nil, newSl, newVar, t13, t17, t19, t20, t21, t22, rg2, rg4, hB2, rB2, qb, c3, hmxa, c4']
              refine .while (I70 p8 pA e8 eA c8 none all S7) id all.length ⟨rfl, ?_, ?_, ?_, 0, ?_, by omega⟩ (by show all.length < k + L.length + 12; omega) fun mm TT SS hh => (round70 (k + L.length + 9) (h8.ext x7) hA mm TT SS hh).mono ?_
              rotate_right
              · intro r T3 U3 hq
                cases r with
                | normal => exact hq
                | ret => exact absurd hq.1 (by simp)
                | exit xx =>
                  obtain ⟨hi, hst, _⟩ := hq
                  cases hi
                  subst hst
                  simp -implicitDefEqProofs -dsimp (maxSteps := 10000000) only [↓kS, after_some, br_true, br_false, kC, ↓kQ, ↓Option.bind_some, ↓Option.map_some, ↓cond_true, ↓cond_false, evC, evOp, XO.lit, setArgs, Tr.get_set, Option.bind_some, Option.map_some, cond_true, cond_false, maxI, maxFrom, minI, minFrom, aConv, aBinE, aEq, eqScal, aUn, evRes, fin, oneOf, if_true, if_false, callee, reduceCtorEq, Nat.reduceEqDiff, List.getElem?_cons_zero, List.getElem?_cons_succ, beq_self_eq_true, gt_iff_lt, List.head?_cons, AV.undef, eq_self, ne_eq, Int.reduceLT, Int.reduceLE, Int.reduceToNat, Int.reduceEq, Int.reduceNeg, Nat.reduceAdd, Nat.reduceLT, Nat.reduceLeDiff, Nat.reduceMul, Nat.reduceSub, ↓evDraw_nil, bir, putD, evDraw, trace, List.all_cons, List.all_nil, chk, stAt, again, sameV, sameL, sameA, AV.undef, Bool.and_self, Bool.and_true, decide_eq_true_eq, List.getElem?_nil, kM, AV.cells, AV.tup, List.drop_nil, List.append_nil, rdO, St.wr, List.length_cons, List.length_nil, List.take_succ_cons, List.take_zero, List.drop_succ_cons, List.drop_zero, List.cons_append, List.nil_append, Nat.reduceMul, aFill, evParts, rep, List.replicate_succ, List.replicate_zero, List.flatten_cons, List.flatten_nil, List.append_nil, newSl, newVar]
                  exact ⟨_, _, rfl, rfl, eS7⟩
              all_goals simp only [Tr.get_set, Nat.reduceEqDiff, if_false, if_true, t19, t21]
              all_goals rfl
          · rw [if_neg c3] at hout
            subst hout
            simp -implicitDefEqProofs -dsimp (maxSteps := 10000000) only [↓kS, after_some, br_true, br_false, kC, ↓kQ, ↓Option.bind_some, ↓Option.map_some, ↓cond_true, ↓cond_false, evC, evOp, XO.lit, setArgs, Tr.get_set, Option.bind_some, Option.map_some, cond_true, cond_false, maxI, maxFrom, minI, minFrom, aConv, aBinE, aEq, eqScal, aUn, evRes, fin, oneOf, if_true, if_false, callee, reduceCtorEq, Nat.reduceEqDiff, List.getElem?_cons_zero, List.getElem?_cons_succ, beq_self_eq_true, gt_iff_lt, List.head?_cons, AV.undef, eq_self, ne_eq, Int.reduceLT, Int.reduceLE, Int.reduceToNat, Int.reduceEq, Int.reduceNeg, Nat.reduceAdd, Nat.reduceLT, Nat.reduceLeDiff, Nat.reduceMul, Nat.reduceSub, ↓evDraw_nil, bir, putD, evDraw, trace, List.all_cons, List.all_nil, chk, stAt, again, sameV, sameL, sameA, AV.undef, Bool.and_self, Bool.and_true, decide_eq_true_eq, List.getElem?_nil, kM, AV.cells, AV.tup, List.drop_nil, List.append_nil, rdO, St.wr, List.length_cons, List.length_nil, List.take_succ_cons, List.take_zero, List.drop_succ_cons, List.drop_zero, List.cons_append, List.nil_append, Nat.reduceMul, aFill, evParts, rep, List.replicate_succ, List.replicate_zero, List.flatten_cons, List.flatten_nil, List.append_nil, newSl, newVar, t13, t17, t19, t20, t21, t22, rg2, rg4, hB2, rB2, qb, c3, List.length_nil, Nat.zero_le, Int.natCast_zero]
            exact ⟨_, _, rfl, rfl, eS7⟩
      all_goals simp only [Tr.get_set, Nat.reduceEqDiff, if_false, if_true, t13, t17, t19, t20, t21, t22]
      all_goals rfl
end Go.Proofs.YtbfkhnpginlpdaaA
