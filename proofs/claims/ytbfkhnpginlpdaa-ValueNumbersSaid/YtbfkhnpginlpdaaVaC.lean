/- Chapter 7: ValueParts. -/
import Derived.Test.YtbfkhnpginlpdaaVaB
set_option linter.unusedVariables false
set_option linter.unusedSimpArgs false
set_option maxRecDepth 10000
namespace Go.Proofs.YtbfkhnpginlpdaaA
open Go.RowKit
attribute [local congr] bind_congr1 map_congr1 cond_congr1 withX_congr after_congr br_congr gd_congr

theorem eqStr_self : ∀ l : List Nat, eqStr l l = true := fun l => by rw [eqStr_iff]; exact decide_eq_true rfl
abbrev lks : List Sc := [.str, .int .u32, .int .i64]
theorem Sl.lay {S : St} {o v i len : Nat} (h : Sl S (some (o, v, i)) len lks) {j : Nat} (hj : j < len) : ∃ u : Int, S.rd o v (i + j * 3 + 1) 1 = some [.int .u32 u] ∧ (Lit.int .u32 u).wf = true := by
  obtain ⟨ys, hy, hs⟩ := h.el o v i rfl j hj
  match ys, hs with
  | [a, b, c], hs =>
    obtain ⟨u, rfl, hw⟩ := Sc.of_int hs.2.1
    refine ⟨u, ?_, hw⟩
    exact rd_sub (m := 1) (l := 1) hy (by decide)
theorem right1 : right [97] = true ∧ right [98] = true := by decide +kernel
structure I52 (Sb : St) (pa : Option (Nat × Nat × Nat)) (la : Nat) (v1 w : AV) (m : Nat) (T : Tm) (S : St) : Prop where
  ta : T.get 0 = some (.slice pa la 3 none)
  tb : T.get 1 = some v1
  tw : T.get 6 = some w
  more : ∃ (i : Nat) (p : Option (Nat × Nat × Nat)) (e : Nat) (L : List Ly), T.get 7 = some (.int .i64 i) ∧ T.get 5 = some (.slice p L.length e none) ∧ Lg Sb S p e L ∧ L.length = i ∧ i + m = min la 2 ∧ ∀ x ∈ L, okL x = true ∧ x.r.length ≤ 1
set_option maxHeartbeats 4000000 in
theorem round52 (k : Nat) {Sb : St} {pa : Option (Nat × Nat × Nat)} {la : Nat} {v1 w : AV} (hs : Sl Sb pa la lks) (m : Nat) (T : Tm) (S : St) (hI : I52 Sb pa la v1 w m T S) :
    Goes (evF Y AP (k + 20)) (k + 20) af5_l2 T S (Then (fun T' S' => ∃ m', I52 Sb pa la v1 w m' T' S' ∧ id m' < id m) fun r T' S' => r = .exit 0 ∧ I52 Sb pa la v1 w 0 T' S') := by
  obtain ⟨ta, tb, tw, i, p, e, L, tc, to, G, hl, hm, hk⟩ := hI
  have hmx := hs.max
  by_cases c1 : (i : Int) < (la : Int)
  rotate_left
  · obtain rfl : m = 0 := by omega
    simp -implicitDefEqProofs -dsimp (maxSteps := 10000000) only [af5_l2, ↓kS, after_some, br_true, br_false, kC, ↓kQ, ↓Option.bind_some, ↓Option.map_some, ↓cond_true, ↓cond_false, evC, evOp, XO.lit, setArgs, Tr.get_set, Option.bind_some, Option.map_some, cond_true, cond_false, maxI, maxFrom, minI, minFrom, aConv, aBinE, aEq, eqScal, aUn, evRes, fin, oneOf, if_true, if_false, callee, reduceCtorEq, Nat.reduceEqDiff, List.getElem?_cons_zero, List.getElem?_cons_succ, beq_self_eq_true, gt_iff_lt, List.head?_cons, AV.undef, eq_self, ne_eq, Int.reduceLT, Int.reduceLE, Int.reduceToNat, Int.reduceEq, Int.reduceNeg, Nat.reduceAdd, Nat.reduceLT, Nat.reduceLeDiff, Nat.reduceMul, Nat.reduceSub, kM, AV.cells, AV.tup, List.drop_nil, List.append_nil, rdO, St.wr, List.length_cons, List.length_nil, List.take_succ_cons, List.take_zero, List.drop_succ_cons, List.drop_zero, List.cons_append, List.nil_append, Nat.reduceMul, ta, tc, hmx, c1]
    refine ⟨?_, ?_, ?_, i, p, e, L, ?_, ?_, G, hl, hm, hk⟩ <;> simp only [Tr.get_set, Nat.reduceEqDiff, if_false, if_true, ta, tb, tw, tc, to]
  by_cases c2 : (i : Int) < 2
  rotate_left
  · obtain rfl : m = 0 := by omega
    simp -implicitDefEqProofs -dsimp (maxSteps := 10000000) only [af5_l2, ↓kS, after_some, br_true, br_false, kC, ↓kQ, ↓Option.bind_some, ↓Option.map_some, ↓cond_true, ↓cond_false, evC, evOp, XO.lit, setArgs, Tr.get_set, Option.bind_some, Option.map_some, cond_true, cond_false, maxI, maxFrom, minI, minFrom, aConv, aBinE, aEq, eqScal, aUn, evRes, fin, oneOf, if_true, if_false, callee, reduceCtorEq, Nat.reduceEqDiff, List.getElem?_cons_zero, List.getElem?_cons_succ, beq_self_eq_true, gt_iff_lt, List.head?_cons, AV.undef, eq_self, ne_eq, Int.reduceLT, Int.reduceLE, Int.reduceToNat, Int.reduceEq, Int.reduceNeg, Nat.reduceAdd, Nat.reduceLT, Nat.reduceLeDiff, Nat.reduceMul, Nat.reduceSub, kM, AV.cells, AV.tup, List.drop_nil, List.append_nil, rdO, St.wr, List.length_cons, List.length_nil, List.take_succ_cons, List.take_zero, List.drop_succ_cons, List.drop_zero, List.cons_append, List.nil_append, Nat.reduceMul, ta, tc, hmx, c1, c2]
    refine ⟨?_, ?_, ?_, i, p, e, L, ?_, ?_, G, hl, hm, hk⟩ <;> simp only [Tr.get_set, Nat.reduceEqDiff, if_false, if_true, ta, tb, tw, tc, to]
  have hsS := hs.ext G.ext
  obtain ⟨o, v, j, rfl, ho⟩ := hsS.at_ (by omega)
  obtain ⟨u, hz, wu⟩ := hsS.lay (j := i) (by omega)
  have hix : ixOf (.int .i64 (i : Nat)) la = some i := by rw [ix_ok (by omega) (by omega)]; rfl
  have w1 : IntKind.i64.wrap (1 + (i : Int)) = 1 + (i : Int) := w64_id (by omega) (by omega)
  have w2 : IntKind.i64.wrap ((i : Int) + 1) = ((i + 1 : Nat) : Int) := w64_id (by omega) (by omega)
  obtain ⟨B, hB⟩ : ∃ B, S.alloc (.cells [.str [97], .int .u32 u, .int .i64 (1 + (i : Int))] 0 0 true) = B := ⟨_, rfl⟩
  have eB : Ext S B := by rw [← hB]; exact .alloc _ _
  have rB : B.rd S.next 0 0 3 = some [.str [97], .int .u32 u, .int .i64 (1 + (i : Int))] := by rw [← hB, rd_alloc, if_pos rfl]; rfl
  obtain ⟨p', e', S', qa, G'⟩ := (G.more eB).app (M := [⟨[97], u, 1 + (i : Int)⟩]) (by simp only [List.length_cons, List.length_nil]; omega)
  have qa : aAppend 3 32 B (.slice p L.length e none) 1 [.str [97], .int .u32 u, .int .i64 (1 + (i : Int))] = _ := qa
  simp -implicitDefEqProofs -dsimp (maxSteps := 10000000) only [af5_l2, ↓kS, after_some, br_true, br_false, kC, ↓kQ, ↓Option.bind_some, ↓Option.map_some, ↓cond_true, ↓cond_false, evC, evOp, XO.lit, setArgs, Tr.get_set, Option.bind_some, Option.map_some, cond_true, cond_false, maxI, maxFrom, minI, minFrom, aConv, aBinE, aEq, eqScal, aUn, evRes, fin, oneOf, if_true, if_false, callee, reduceCtorEq, Nat.reduceEqDiff, List.getElem?_cons_zero, List.getElem?_cons_succ, beq_self_eq_true, gt_iff_lt, List.head?_cons, AV.undef, eq_self, ne_eq, Int.reduceLT, Int.reduceLE, Int.reduceToNat, Int.reduceEq, Int.reduceNeg, Nat.reduceAdd, Nat.reduceLT, Nat.reduceLeDiff, Nat.reduceMul, Nat.reduceSub, ↓evDraw_nil, bir, putD, evDraw, trace, List.all_cons, List.all_nil, chk, stAt, again, sameV, sameL, sameA, AV.undef, Bool.and_self, Bool.and_true, decide_eq_true_eq, List.getElem?_nil, kM, AV.cells, AV.tup, List.drop_nil, List.append_nil, rdO, St.wr, List.length_cons, List.length_nil, List.take_succ_cons, List.take_zero, List.drop_succ_cons, List.drop_zero, List.cons_append, List.nil_append, Nat.reduceMul, aFill, evParts, rep, List.replicate_succ, List.replicate_zero, List.flatten_cons, List.flatten_nil, List.append_nil, newSl, newVar, ta, tc, to, hmx, c1, c2, hix, hz, w1, hB, rB, qa, w2]
  refine ⟨m - 1, ⟨?_, ?_, ?_, i + 1, p', e', _, ?_, ?_, G', by rw [List.length_append, hl]; rfl, by omega, fun x hx => ?_⟩, by show m - 1 < m; omega⟩
  rotate_right
  · rcases List.mem_append.1 hx with hx | hx
    · exact hk x hx
    · rw [List.mem_singleton] at hx
      rw [hx]
      refine ⟨?_, by show ([97] : List Nat).length ≤ 1; decide⟩
      show (right [97] && decide (1 ≤ 1 + (i : Int)) && decide (1 + (i : Int) ≤ 8192)) = true
      rw [right1.1, decide_eq_true (by omega), decide_eq_true (by omega)]; rfl
  all_goals simp only [Tr.get_set, Nat.reduceEqDiff, if_false, if_true, ta, tb, tw]
structure I51 (Sb : St) (pa : Option (Nat × Nat × Nat)) (la : Nat) (v1 w : AV) (m : Nat) (T : Tm) (S : St) : Prop where
  ta : T.get 1 = some (.slice pa la 3 none)
  tb : T.get 0 = some v1
  tw : T.get 5 = some w
  more : ∃ (i : Nat) (p : Option (Nat × Nat × Nat)) (e : Nat) (L : List Ly), T.get 8 = some (.int .i64 i) ∧ T.get 6 = some (.slice p L.length e none) ∧ Lg Sb S p e L ∧ L.length = i ∧ i + m = min la 2 ∧ ∀ x ∈ L, okL x = true ∧ x.r.length ≤ 1
set_option maxHeartbeats 4000000 in
theorem round51 (k : Nat) {Sb : St} {pa : Option (Nat × Nat × Nat)} {la : Nat} {v1 w : AV} (hs : Sl Sb pa la lks) (m : Nat) (T : Tm) (S : St) (hI : I51 Sb pa la v1 w m T S) :
    Goes (evF Y AP (k + 20)) (k + 20) af5_l1 T S (Then (fun T' S' => ∃ m', I51 Sb pa la v1 w m' T' S' ∧ id m' < id m) fun r T' S' => r = .exit 2 ∧ I51 Sb pa la v1 w 0 T' S') := by
  obtain ⟨ta, tb, tw, i, p, e, L, tc, to, G, hl, hm, hk⟩ := hI
  have hmx := hs.max
  by_cases c1 : (i : Int) < (la : Int)
  rotate_left
  · obtain rfl : m = 0 := by omega
    simp -implicitDefEqProofs -dsimp (maxSteps := 10000000) only [af5_l1, ↓kS, after_some, br_true, br_false, kC, ↓kQ, ↓Option.bind_some, ↓Option.map_some, ↓cond_true, ↓cond_false, evC, evOp, XO.lit, setArgs, Tr.get_set, Option.bind_some, Option.map_some, cond_true, cond_false, maxI, maxFrom, minI, minFrom, aConv, aBinE, aEq, eqScal, aUn, evRes, fin, oneOf, if_true, if_false, callee, reduceCtorEq, Nat.reduceEqDiff, List.getElem?_cons_zero, List.getElem?_cons_succ, beq_self_eq_true, gt_iff_lt, List.head?_cons, AV.undef, eq_self, ne_eq, Int.reduceLT, Int.reduceLE, Int.reduceToNat, Int.reduceEq, Int.reduceNeg, Nat.reduceAdd, Nat.reduceLT, Nat.reduceLeDiff, Nat.reduceMul, Nat.reduceSub, kM, AV.cells, AV.tup, List.drop_nil, List.append_nil, rdO, St.wr, List.length_cons, List.length_nil, List.take_succ_cons, List.take_zero, List.drop_succ_cons, List.drop_zero, List.cons_append, List.nil_append, Nat.reduceMul, ta, tc, hmx, c1]
    refine ⟨?_, ?_, ?_, i, p, e, L, ?_, ?_, G, hl, hm, hk⟩ <;> simp only [Tr.get_set, Nat.reduceEqDiff, if_false, if_true, ta, tb, tw, tc, to]
  by_cases c2 : (i : Int) < 2
  rotate_left
  · obtain rfl : m = 0 := by omega
    simp -implicitDefEqProofs -dsimp (maxSteps := 10000000) only [af5_l1, ↓kS, after_some, br_true, br_false, kC, ↓kQ, ↓Option.bind_some, ↓Option.map_some, ↓cond_true, ↓cond_false, evC, evOp, XO.lit, setArgs, Tr.get_set, Option.bind_some, Option.map_some, cond_true, cond_false, maxI, maxFrom, minI, minFrom, aConv, aBinE, aEq, eqScal, aUn, evRes, fin, oneOf, if_true, if_false, callee, reduceCtorEq, Nat.reduceEqDiff, List.getElem?_cons_zero, List.getElem?_cons_succ, beq_self_eq_true, gt_iff_lt, List.head?_cons, AV.undef, eq_self, ne_eq, Int.reduceLT, Int.reduceLE, Int.reduceToNat, Int.reduceEq, Int.reduceNeg, Nat.reduceAdd, Nat.reduceLT, Nat.reduceLeDiff, Nat.reduceMul, Nat.reduceSub, kM, AV.cells, AV.tup, List.drop_nil, List.append_nil, rdO, St.wr, List.length_cons, List.length_nil, List.take_succ_cons, List.take_zero, List.drop_succ_cons, List.drop_zero, List.cons_append, List.nil_append, Nat.reduceMul, ta, tc, hmx, c1, c2]
    refine ⟨?_, ?_, ?_, i, p, e, L, ?_, ?_, G, hl, hm, hk⟩ <;> simp only [Tr.get_set, Nat.reduceEqDiff, if_false, if_true, ta, tb, tw, tc, to]
  have hsS := hs.ext G.ext
  obtain ⟨o, v, j, rfl, ho⟩ := hsS.at_ (by omega)
  obtain ⟨u, hz, wu⟩ := hsS.lay (j := i) (by omega)
  have hix : ixOf (.int .i64 (i : Nat)) la = some i := by rw [ix_ok (by omega) (by omega)]; rfl
  have w1 : IntKind.i64.wrap (5 + (i : Int)) = 5 + (i : Int) := w64_id (by omega) (by omega)
  have w2 : IntKind.i64.wrap ((i : Int) + 1) = ((i + 1 : Nat) : Int) := w64_id (by omega) (by omega)
  obtain ⟨B, hB⟩ : ∃ B, S.alloc (.cells [.str [98], .int .u32 u, .int .i64 (5 + (i : Int))] 0 0 true) = B := ⟨_, rfl⟩
  have eB : Ext S B := by rw [← hB]; exact .alloc _ _
  have rB : B.rd S.next 0 0 3 = some [.str [98], .int .u32 u, .int .i64 (5 + (i : Int))] := by rw [← hB, rd_alloc, if_pos rfl]; rfl
  obtain ⟨p', e', S', qa, G'⟩ := (G.more eB).app (M := [⟨[98], u, 5 + (i : Int)⟩]) (by simp only [List.length_cons, List.length_nil]; omega)
  have qa : aAppend 3 32 B (.slice p L.length e none) 1 [.str [98], .int .u32 u, .int .i64 (5 + (i : Int))] = _ := qa
  simp -implicitDefEqProofs -dsimp (maxSteps := 10000000) only [af5_l1, ↓kS, after_some, br_true, br_false, kC, ↓kQ, ↓Option.bind_some, ↓Option.map_some, ↓cond_true, ↓cond_false, evC, evOp, XO.lit, setArgs, Tr.get_set, Option.bind_some, Option.map_some, cond_true, cond_false, maxI, maxFrom, minI, minFrom, aConv, aBinE, aEq, eqScal, aUn, evRes, fin, oneOf, if_true, if_false, callee, reduceCtorEq, Nat.reduceEqDiff, List.getElem?_cons_zero, List.getElem?_cons_succ, beq_self_eq_true, gt_iff_lt, List.head?_cons, AV.undef, eq_self, ne_eq, Int.reduceLT, Int.reduceLE, Int.reduceToNat, Int.reduceEq, Int.reduceNeg, Nat.reduceAdd, Nat.reduceLT, Nat.reduceLeDiff, Nat.reduceMul, Nat.reduceSub, ↓evDraw_nil, bir, putD, evDraw, trace, List.all_cons, List.all_nil, chk, stAt, again, sameV, sameL, sameA, AV.undef, Bool.and_self, Bool.and_true, decide_eq_true_eq, List.getElem?_nil, kM, AV.cells, AV.tup, List.drop_nil, List.append_nil, rdO, St.wr, List.length_cons, List.length_nil, List.take_succ_cons, List.take_zero, List.drop_succ_cons, List.drop_zero, List.cons_append, List.nil_append, Nat.reduceMul, aFill, evParts, rep, List.replicate_succ, List.replicate_zero, List.flatten_cons, List.flatten_nil, List.append_nil, newSl, newVar, ta, tc, to, hmx, c1, c2, hix, hz, w1, hB, rB, qa, w2]
  refine ⟨m - 1, ⟨?_, ?_, ?_, i + 1, p', e', _, ?_, ?_, G', by rw [List.length_append, hl]; rfl, by omega, fun x hx => ?_⟩, by show m - 1 < m; omega⟩
  rotate_right
  · rcases List.mem_append.1 hx with hx | hx
    · exact hk x hx
    · rw [List.mem_singleton] at hx
      rw [hx]
      refine ⟨?_, by show ([98] : List Nat).length ≤ 1; decide⟩
      show (right [98] && decide (1 ≤ 5 + (i : Int)) && decide (5 + (i : Int) ≤ 8192)) = true
      rw [right1.2, decide_eq_true (by omega), decide_eq_true (by omega)]; rfl
  all_goals simp only [Tr.get_set, Nat.reduceEqDiff, if_false, if_true, ta, tb, tw]
theorem eqF (x : Ly) : eqFields (lyc x) (lyc x) [(0, .str), (1, .num), (2, .num)] = some true := by
  simp [eqFields, aEq, eqScal, eqStr_self]
structure I50 (p5 p6 p9 : Option (Nat × Nat × Nat)) (e5 e6 e9 : Nat) (c9 : Option Nat) (X Z : List Ly) (Sb : St) (m : Nat) (T : Tm) (S : St) : Prop where
  st : S = Sb
  t5 : T.get 5 = some (.slice p5 X.length e5 none)
  t6 : T.get 6 = some (.slice p6 Z.length e6 none)
  t9 : T.get 9 = some (.slice p9 (X ++ Z).length e9 c9)
  t92 : T.get 92 = some (.int .i64 ((X ++ Z).length : Nat))
  more : ∃ i : Nat, T.get 93 = some (.int .i64 i) ∧ i + m = (X ++ Z).length
set_option maxHeartbeats 4000000 in
theorem round50 (k : Nat) {p5 p6 p9 : Option (Nat × Nat × Nat)} {e5 e6 e9 : Nat} {c9 : Option Nat} {X Z : List Ly} {Sb : St} (h5 : Lr Sb p5 e5 X) (h6 : Lr Sb p6 e6 Z) (h9 : Lr Sb p9 e9 (X ++ Z)) (m : Nat) (T : Tm) (S : St) (hI : I50 p5 p6 p9 e5 e6 e9 c9 X Z Sb m T S) :
    Goes (evF Y AP (k + 20)) (k + 20) af5_l0 T S (Then (fun T' S' => ∃ m', I50 p5 p6 p9 e5 e6 e9 c9 X Z Sb m' T' S' ∧ id m' < id m) fun r T' S' => r = .exit 4 ∧ I50 p5 p6 p9 e5 e6 e9 c9 X Z Sb 0 T' S') := by
  obtain ⟨rfl, t5, t6, t9, t92, i, t93, hm⟩ := hI
  have m5 := h5.mx; have m9 := h9.mx
  have hll : (X ++ Z).length = X.length + Z.length := List.length_append
  obtain ⟨n, hn⟩ : ∃ n, (X ++ Z).length = n := ⟨_, rfl⟩
  by_cases c1 : (i : Int) < ((X ++ Z).length : Int)
  rotate_left
  · obtain rfl : m = 0 := by omega
    rw [hn] at t92 c1
    simp -implicitDefEqProofs -dsimp (maxSteps := 10000000) only [af5_l0, ↓kS, after_some, br_true, br_false, kC, ↓kQ, ↓Option.bind_some, ↓Option.map_some, ↓cond_true, ↓cond_false, evC, evOp, XO.lit, setArgs, Tr.get_set, Option.bind_some, Option.map_some, cond_true, cond_false, maxI, maxFrom, minI, minFrom, aConv, aBinE, aEq, eqScal, aUn, evRes, fin, oneOf, if_true, if_false, callee, reduceCtorEq, Nat.reduceEqDiff, List.getElem?_cons_zero, List.getElem?_cons_succ, beq_self_eq_true, gt_iff_lt, List.head?_cons, AV.undef, eq_self, ne_eq, Int.reduceLT, Int.reduceLE, Int.reduceToNat, Int.reduceEq, Int.reduceNeg, Nat.reduceAdd, Nat.reduceLT, Nat.reduceLeDiff, Nat.reduceMul, Nat.reduceSub, kM, AV.cells, AV.tup, List.drop_nil, List.append_nil, rdO, St.wr, List.length_cons, List.length_nil, List.take_succ_cons, List.take_zero, List.drop_succ_cons, List.drop_zero, List.cons_append, List.nil_append, Nat.reduceMul, t92, t93, c1]
    refine ⟨rfl, ?_, ?_, ?_, ?_, i, ?_, hm⟩ <;> simp only [Tr.get_set, Nat.reduceEqDiff, if_false, if_true, t5, t6, t9, t92, t93, hn]
  have hi : i < (X ++ Z).length := by omega
  rcases p9 with _ | ⟨o9, v9, i9⟩
  · have := h9.nil rfl; rw [this] at hi; exact absurd hi (Nat.not_lt_zero _)
  obtain rfl := h9.ez.resolve_left (by simp)
  have z9 := h9.get hi
  have hix9 : ixOf (.int .i64 (i : Nat)) n = some i := by rw [ix_ok (by omega) (by omega)]; rfl
  have wi : IntKind.i64.wrap ((i : Int) + 1) = ((i + 1 : Nat) : Int) := w64_id (by omega) (by omega)
  rw [hn] at t9 t92 c1 m9
  by_cases c2 : (i : Int) < (X.length : Int)
  · have hiX : i < X.length := by omega
    rcases p5 with _ | ⟨o5, v5, i5⟩
    · have := h5.nil rfl; rw [this] at hiX; exact absurd hiX (Nat.not_lt_zero _)
    obtain rfl := h5.ez.resolve_left (by simp)
    have z5 := h5.get hiX
    rw [List.getElem_append_left hiX] at z9
    have hix5 : ixOf (.int .i64 (i : Nat)) X.length = some i := by rw [ix_ok (by omega) (by omega)]; rfl
    have c3 : ¬ (X.length : Int) ≤ (i : Int) := by omega
    obtain ⟨x, hx⟩ : ∃ x, X[i] = x := ⟨_, rfl⟩
    rw [hx] at z5 z9
    have es := eqF x
    simp -implicitDefEqProofs -dsimp (maxSteps := 10000000) only [af5_l0, ↓kS, after_some, br_true, br_false, kC, ↓kQ, ↓Option.bind_some, ↓Option.map_some, ↓cond_true, ↓cond_false, evC, evOp, XO.lit, setArgs, Tr.get_set, Option.bind_some, Option.map_some, cond_true, cond_false, maxI, maxFrom, minI, minFrom, aConv, aBinE, aEq, eqScal, aUn, evRes, fin, oneOf, if_true, if_false, callee, reduceCtorEq, Nat.reduceEqDiff, List.getElem?_cons_zero, List.getElem?_cons_succ, beq_self_eq_true, gt_iff_lt, List.head?_cons, AV.undef, eq_self, ne_eq, Int.reduceLT, Int.reduceLE, Int.reduceToNat, Int.reduceEq, Int.reduceNeg, Nat.reduceAdd, Nat.reduceLT, Nat.reduceLeDiff, Nat.reduceMul, Nat.reduceSub, ↓evDraw_nil, bir, putD, evDraw, trace, List.all_cons, List.all_nil, chk, stAt, again, sameV, sameL, sameA, AV.undef, Bool.and_self, Bool.and_true, decide_eq_true_eq, List.getElem?_nil, kM, AV.cells, AV.tup, List.drop_nil, List.append_nil, rdO, St.wr, List.length_cons, List.length_nil, List.take_succ_cons, List.take_zero, List.drop_succ_cons, List.drop_zero, List.cons_append, List.nil_append, Nat.reduceMul, aFill, evParts, rep, List.replicate_succ, List.replicate_zero, List.flatten_cons, List.flatten_nil, List.append_nil, newSl, newVar, t5, t6, t9, t92, t93, c1, m5, c2, hix9, z9, hix5, z5, es, c3, wi, aStr]
    refine ⟨m - 1, ⟨rfl, ?_, ?_, ?_, ?_, i + 1, ?_, by omega⟩, by show m - 1 < m; omega⟩ <;> simp only [Tr.get_set, Nat.reduceEqDiff, if_false, if_true, t5, t6, t9, t92, hn]
  · have hiZ : i - X.length < Z.length := by omega
    rcases p6 with _ | ⟨o6, v6, i6⟩
    · have := h6.nil rfl; rw [this] at hiZ; exact absurd hiZ (Nat.not_lt_zero _)
    obtain rfl := h6.ez.resolve_left (by simp)
    have z6 := h6.get hiZ
    rw [List.getElem_append_right (by omega)] at z9
    have ws : IntKind.i64.wrap ((i : Int) - (X.length : Int)) = ((i - X.length : Nat) : Int) := by rw [w64_id (by omega) (by omega)]; omega
    have hix6 : ixOf (.int .i64 ((i - X.length : Nat) : Int)) Z.length = some (i - X.length) := by rw [ix_ok (by omega) (by omega)]; rfl
    have c3 : (X.length : Int) ≤ (i : Int) := by omega
    obtain ⟨x, hx⟩ : ∃ x, Z[i - X.length] = x := ⟨_, rfl⟩
    rw [hx] at z6 z9
    have es := eqF x
    simp -implicitDefEqProofs -dsimp (maxSteps := 10000000) only [af5_l0, ↓kS, after_some, br_true, br_false, kC, ↓kQ, ↓Option.bind_some, ↓Option.map_some, ↓cond_true, ↓cond_false, evC, evOp, XO.lit, setArgs, Tr.get_set, Option.bind_some, Option.map_some, cond_true, cond_false, maxI, maxFrom, minI, minFrom, aConv, aBinE, aEq, eqScal, aUn, evRes, fin, oneOf, if_true, if_false, callee, reduceCtorEq, Nat.reduceEqDiff, List.getElem?_cons_zero, List.getElem?_cons_succ, beq_self_eq_true, gt_iff_lt, List.head?_cons, AV.undef, eq_self, ne_eq, Int.reduceLT, Int.reduceLE, Int.reduceToNat, Int.reduceEq, Int.reduceNeg, Nat.reduceAdd, Nat.reduceLT, Nat.reduceLeDiff, Nat.reduceMul, Nat.reduceSub, ↓evDraw_nil, bir, putD, evDraw, trace, List.all_cons, List.all_nil, chk, stAt, again, sameV, sameL, sameA, AV.undef, Bool.and_self, Bool.and_true, decide_eq_true_eq, List.getElem?_nil, kM, AV.cells, AV.tup, List.drop_nil, List.append_nil, rdO, St.wr, List.length_cons, List.length_nil, List.take_succ_cons, List.take_zero, List.drop_succ_cons, List.drop_zero, List.cons_append, List.nil_append, Nat.reduceMul, aFill, evParts, rep, List.replicate_succ, List.replicate_zero, List.flatten_cons, List.flatten_nil, List.append_nil, newSl, newVar, t5, t6, t9, t92, t93, c1, m5, c2, hix9, z9, ws, hix6, z6, es, c3, wi, aStr]
    refine ⟨m - 1, ⟨rfl, ?_, ?_, ?_, ?_, i + 1, ?_, by omega⟩, by show m - 1 < m; omega⟩ <;> simp only [Tr.get_set, Nat.reduceEqDiff, if_false, if_true, t5, t6, t9, t92, hn]
end Go.Proofs.YtbfkhnpginlpdaaA
