/- Chapter 7: Layers, of a list, three values, a layer. -/
import Derived.Test.YtbfkhnpginlpdaaVaH
set_option linter.unusedVariables false
set_option linter.unusedSimpArgs false
set_option maxRecDepth 10000
namespace Go.Proofs.YtbfkhnpginlpdaaA
open Go.RowKit
attribute [local congr] bind_congr1 map_congr1 cond_congr1 withX_congr after_congr br_congr gd_congr

def lays (many : List Ly) (y z : Ly × Int) : List Ly × Int :=
  if many.all okL = false then ([], 12) else if ¬ y.2 = 0 then ([], y.2) else if ¬ z.2 = 0 then ([], z.2) else if 3 < many.length + 2 then ([], 3) else (many ++ [y.1] ++ [z.1], 0)
def outL (many : List Ly) (y z : Ly) : Nat → List Ly
  | 0 => many ++ [y] ++ [z]
  | 1 => many ++ [y]
  | 2 => many
  | _ => []
def offL : Nat → Nat × Nat
  | 0 => (5, 0)
  | 1 => (4, 1)
  | 2 => (1, 4)
  | _ => (0, 5)
structure I8g (Sb : St) (o v j : Nat) (many : List Ly) (y z : Ly × Int) (m : Nat) (T : Tm) (S : St) : Prop where
  t0 : T.get 0 = some (.slice (some (o, v, j + (offL m).1)) (offL m).2 1 none)
  out : ∃ p e, T.get 4 = some (.slice p (outL many y.1 z.1 m).length e none) ∧ Lg Sb S p e (outL many y.1 z.1 m)
  c1 : m ≤ 2 → many.all okL = true
  c2 : m ≤ 1 → y.2 = 0
  c3 : m = 0 → z.2 = 0
  le : m ≤ 3
set_option maxHeartbeats 16000000 in
theorem round8g (k : Nat) {Sb : St} {o v j : Nat} {pm : Option (Nat × Nat × Nat)} {em : Nat} {many : List Ly} {s : List Nat} {w1 w2 : AV} {n h : Int} {x : Ly} (ho : o < Sb.next) (hr : Sb.rd o v j 5 = some [.iface 29 (.slice pm many.length em none), .iface 9 (.str s), w1, w2, .iface 28 (.agg (lyc x))]) (hm : Lr Sb pm em many) (hml : many.length ≤ 100000)
    (hs : s.length ≤ 9223372036854775807) (h1 : ∀ X k, evF Y AP (k + 3) 20 [w1] X = some (.tuple [.int .i64 n, .bool true], X)) (h2 : ∀ X k, evF Y AP (k + 3) 20 [w2] X = some (.tuple [.int .i64 h, .bool true], X)) (hxs : x.r.length ≤ 9223372036854775807) (hxu : 0 ≤ x.u ∧ x.u ≤ 4294967295)
    (m : Nat) (T : Tm) (S : St) (hI : I8g Sb o v j many (layP s n h) (layP x.r x.u x.h) m T S) :
    Goes (evF Y AP (k + many.length + 11)) (k + many.length + 11) af8_l0 T S (Then (fun T' S' => ∃ m', I8g Sb o v j many (layP s n h) (layP x.r x.u x.h) m' T' S' ∧ id m' < id m)
      fun r T' S' => (r = .exit 0 ∧ I8g Sb o v j many (layP s n h) (layP x.r x.u x.h) 0 T' S') ∨ (r = .ret ∧ Ext Sb S' ∧ T'.get 2 = some (.slice none 0 0 none) ∧ ∃ er : Int, T'.get 3 = some (.int .i64 er) ∧ lays many (layP s n h) (layP x.r x.u x.h) = ([], er))) := by
  obtain ⟨y, hy⟩ : ∃ y, layP s n h = y := ⟨_, rfl⟩
  obtain ⟨z, hz⟩ : ∃ z, layP x.r x.u x.h = z := ⟨_, rfl⟩
  rw [hy, hz] at hI ⊢
  obtain ⟨t0, ⟨p, e, t4, G⟩, c1, c2, c3, le⟩ := hI
  have hrS : S.rd o v j 5 = some [.iface 29 (.slice pm many.length em none), .iface 9 (.str s), w1, w2, .iface 28 (.agg (lyc x))] := by rw [G.ext.rd ho]; exact hr
  have hoS : o < S.next := Nat.lt_of_lt_of_le ho G.ext.next
  have p0 : (0 : Int) < ((5 : Nat) : Int) := by decide
  have p1 : (0 : Int) < ((4 : Nat) : Int) := by decide
  have p2 : (0 : Int) < ((1 : Nat) : Int) := by decide
  have p3 : ¬ (0 : Int) < ((0 : Nat) : Int) := by decide
  have l5 : (5 : Nat) ≤ 9223372036854775807 := by decide
  have l4 : (4 : Nat) ≤ 9223372036854775807 := by decide
  have l1 : (1 : Nat) ≤ 9223372036854775807 := by decide
  have l0 : (0 : Nat) ≤ 9223372036854775807 := by decide
  have hm4 : m = 0 ∨ m = 1 ∨ m = 2 ∨ m = 3 := by omega
  rcases hm4 with rfl | rfl | rfl | rfl
  · have t0 : T.get 0 = some (.slice (some (o, v, j + 5)) 0 1 none) := t0
    simp -implicitDefEqProofs -dsimp (maxSteps := 10000000) only [af8_l0, ↓kS, after_some, br_true, br_false, kC, ↓kQ, ↓Option.bind_some, ↓Option.map_some, ↓cond_true, ↓cond_false, evC, evOp, XO.lit, setArgs, Tr.get_set, Option.bind_some, Option.map_some, cond_true, cond_false, maxI, maxFrom, minI, minFrom, aConv, aBinE, aEq, eqScal, aUn, evRes, fin, oneOf, if_true, if_false, callee, reduceCtorEq, Nat.reduceEqDiff, List.getElem?_cons_zero, List.getElem?_cons_succ, beq_self_eq_true, gt_iff_lt, List.head?_cons, AV.undef, eq_self, ne_eq, Int.reduceLT, Int.reduceLE, Int.reduceToNat, Int.reduceEq, Int.reduceNeg, Nat.reduceAdd, Nat.reduceLT, Nat.reduceLeDiff, Nat.reduceMul, Nat.reduceSub, kM, AV.cells, AV.tup, List.drop_nil, List.append_nil, rdO, St.wr, List.length_cons, List.length_nil, List.take_succ_cons, List.take_zero, List.drop_succ_cons, List.drop_zero, List.cons_append, List.nil_append, Nat.reduceMul, t0, l0, p3]
    refine .inl ⟨?_, ⟨p, e, ?_, G⟩, c1, c2, c3, le⟩ <;> simp only [Tr.get_set, Nat.reduceEqDiff, if_false, if_true, t0, t4]
    rfl
  · -- a layer
    have t0 : T.get 0 = some (.slice (some (o, v, j + 4)) 1 1 none) := t0
    have hr4 : S.rd o v (j + 4) 1 = some [.iface 28 (.agg (lyc x))] := rd_sub (m := 4) (l := 1) hrS (by decide)
    obtain ⟨W, S1, q, x1, hW, rW⟩ := T17s (k + many.length + 6) (n := 1) (c := none) (by decide) hoS hr4 hxs hxu
    rw [hz] at q rW
    have q : evF Y AP (k + many.length + 11) 17 [.slice (some (o, v, j + 4)) 1 1 none] S = _ := q
    by_cases ce : z.2 = 0
    · have ce' := eq_true ce
      obtain ⟨p', e', S2, qa, G2⟩ := (G.more x1).app (M := [z.1]) (by show (many ++ [y.1]).length + 1 ≤ 1000000; rw [List.length_append]; simp only [List.length_cons, List.length_nil]; omega)
      have qa : aAppend 3 32 S1 (.slice p (outL many y.1 z.1 1).length e none) 1 [.str z.1.r, .int .u32 z.1.u, .int .i64 z.1.h] = some (.slice p' (outL many y.1 z.1 0).length e' none, S2) := qa
      have b1 : bnd (some (.int .i64 1)) 0 1 = some 1 := by rw [bnd_some (by omega) (by omega)]; rfl
      have hcut : aCut 1 (.slice (some (o, v, j + 4)) 1 1 none) (some (.int .i64 1)) none none = some (.slice (some (o, v, j + 5)) 0 1 none) := by
        simp [aCut, b1, bnd_none, beq_dec]
      simp -implicitDefEqProofs -dsimp (maxSteps := 10000000) only [af8_l0, ↓kS, after_some, br_true, br_false, kC, ↓kQ, ↓Option.bind_some, ↓Option.map_some, ↓cond_true, ↓cond_false, evC, evOp, XO.lit, setArgs, Tr.get_set, Option.bind_some, Option.map_some, cond_true, cond_false, maxI, maxFrom, minI, minFrom, aConv, aBinE, aEq, eqScal, aUn, evRes, fin, oneOf, if_true, if_false, callee, reduceCtorEq, Nat.reduceEqDiff, List.getElem?_cons_zero, List.getElem?_cons_succ, beq_self_eq_true, gt_iff_lt, List.head?_cons, AV.undef, eq_self, ne_eq, Int.reduceLT, Int.reduceLE, Int.reduceToNat, Int.reduceEq, Int.reduceNeg, Nat.reduceAdd, Nat.reduceLT, Nat.reduceLeDiff, Nat.reduceMul, Nat.reduceSub, ↓evDraw_nil, bir, putD, evDraw, trace, List.all_cons, List.all_nil, chk, stAt, again, sameV, sameL, sameA, AV.undef, Bool.and_self, Bool.and_true, decide_eq_true_eq, List.getElem?_nil, kM, AV.cells, AV.tup, List.drop_nil, List.append_nil, rdO, St.wr, List.length_cons, List.length_nil, List.take_succ_cons, List.take_zero, List.drop_succ_cons, List.drop_zero, List.cons_append, List.nil_append, Nat.reduceMul, aFill, evParts, rep, List.replicate_succ, List.replicate_zero, List.flatten_cons, List.flatten_nil, List.append_nil, newSl, newVar, evOpt, t0, t4, l1, p2, q, ce', rW, qa, hcut]
      refine ⟨0, ⟨?_, ⟨p', e', ?_, G2⟩, fun _ => c1 (by omega), fun _ => c2 (by omega), fun _ => ce, by omega⟩, by show 0 < 1; omega⟩ <;> simp only [Tr.get_set, Nat.reduceEqDiff, if_false, if_true]
      rfl
    · simp -implicitDefEqProofs -dsimp (maxSteps := 10000000) only [af8_l0, ↓kS, after_some, br_true, br_false, kC, ↓kQ, ↓Option.bind_some, ↓Option.map_some, ↓cond_true, ↓cond_false, evC, evOp, XO.lit, setArgs, Tr.get_set, Option.bind_some, Option.map_some, cond_true, cond_false, maxI, maxFrom, minI, minFrom, aConv, aBinE, aEq, eqScal, aUn, evRes, fin, oneOf, if_true, if_false, callee, reduceCtorEq, Nat.reduceEqDiff, List.getElem?_cons_zero, List.getElem?_cons_succ, beq_self_eq_true, gt_iff_lt, List.head?_cons, AV.undef, eq_self, ne_eq, Int.reduceLT, Int.reduceLE, Int.reduceToNat, Int.reduceEq, Int.reduceNeg, Nat.reduceAdd, Nat.reduceLT, Nat.reduceLeDiff, Nat.reduceMul, Nat.reduceSub, ↓evDraw_nil, bir, putD, evDraw, trace, List.all_cons, List.all_nil, chk, stAt, again, sameV, sameL, sameA, AV.undef, Bool.and_self, Bool.and_true, decide_eq_true_eq, List.getElem?_nil, kM, AV.cells, AV.tup, List.drop_nil, List.append_nil, rdO, St.wr, List.length_cons, List.length_nil, List.take_succ_cons, List.take_zero, List.drop_succ_cons, List.drop_zero, List.cons_append, List.nil_append, Nat.reduceMul, aFill, evParts, rep, List.replicate_succ, List.replicate_zero, List.flatten_cons, List.flatten_nil, List.append_nil, newSl, newVar, evOpt, t0, t4, l1, p2, q, ce]
      refine .inr ⟨G.ext.trans x1, z.2, rfl, ?_⟩
      · unfold lays; rw [if_neg (by rw [c1 (by omega)]; decide), if_neg (fun h => h (c2 (by omega))), if_pos ce]
  · -- three values
    have t0 : T.get 0 = some (.slice (some (o, v, j + 1)) 4 1 none) := t0
    have hr1 : S.rd o v (j + 1) 3 = some [.iface 9 (.str s), w1, w2] := rd_sub (m := 1) (l := 3) hrS (by decide)
    obtain ⟨W, S1, q, x1, hW, rW⟩ := T17t (k + many.length + 6) (n := 4) (by decide) (by decide) hoS hr1 hs h1 h2
    rw [hy] at q rW
    have q : evF Y AP (k + many.length + 11) 17 [.slice (some (o, v, j + 1)) 4 1 none] S = _ := q
    by_cases ce : y.2 = 0
    · have ce' := eq_true ce
      obtain ⟨p', e', S2, qa, G2⟩ := (G.more x1).app (M := [y.1]) (by show many.length + 1 ≤ 1000000; omega)
      have qa : aAppend 3 32 S1 (.slice p (outL many y.1 z.1 2).length e none) 1 [.str y.1.r, .int .u32 y.1.u, .int .i64 y.1.h] = some (.slice p' (outL many y.1 z.1 1).length e' none, S2) := qa
      have b1 : bnd (some (.int .i64 3)) 0 4 = some 3 := by rw [bnd_some (by omega) (by omega)]; rfl
      have hcut : aCut 1 (.slice (some (o, v, j + 1)) 4 1 none) (some (.int .i64 3)) none none = some (.slice (some (o, v, j + 4)) 1 1 none) := by
        simp [aCut, b1, bnd_none, beq_dec]
      simp -implicitDefEqProofs -dsimp (maxSteps := 10000000) only [af8_l0, ↓kS, after_some, br_true, br_false, kC, ↓kQ, ↓Option.bind_some, ↓Option.map_some, ↓cond_true, ↓cond_false, evC, evOp, XO.lit, setArgs, Tr.get_set, Option.bind_some, Option.map_some, cond_true, cond_false, maxI, maxFrom, minI, minFrom, aConv, aBinE, aEq, eqScal, aUn, evRes, fin, oneOf, if_true, if_false, callee, reduceCtorEq, Nat.reduceEqDiff, List.getElem?_cons_zero, List.getElem?_cons_succ, beq_self_eq_true, gt_iff_lt, List.head?_cons, AV.undef, eq_self, ne_eq, Int.reduceLT, Int.reduceLE, Int.reduceToNat, Int.reduceEq, Int.reduceNeg, Nat.reduceAdd, Nat.reduceLT, Nat.reduceLeDiff, Nat.reduceMul, Nat.reduceSub, ↓evDraw_nil, bir, putD, evDraw, trace, List.all_cons, List.all_nil, chk, stAt, again, sameV, sameL, sameA, AV.undef, Bool.and_self, Bool.and_true, decide_eq_true_eq, List.getElem?_nil, kM, AV.cells, AV.tup, List.drop_nil, List.append_nil, rdO, St.wr, List.length_cons, List.length_nil, List.take_succ_cons, List.take_zero, List.drop_succ_cons, List.drop_zero, List.cons_append, List.nil_append, Nat.reduceMul, aFill, evParts, rep, List.replicate_succ, List.replicate_zero, List.flatten_cons, List.flatten_nil, List.append_nil, newSl, newVar, evOpt, t0, t4, l4, p1, q, ce', rW, qa, hcut]
      refine ⟨1, ⟨?_, ⟨p', e', ?_, G2⟩, fun _ => c1 (by omega), fun _ => ce, fun h => absurd h (by decide), by omega⟩, by show 1 < 2; omega⟩ <;> simp only [Tr.get_set, Nat.reduceEqDiff, if_false, if_true]
      rfl
    · simp -implicitDefEqProofs -dsimp (maxSteps := 10000000) only [af8_l0, ↓kS, after_some, br_true, br_false, kC, ↓kQ, ↓Option.bind_some, ↓Option.map_some, ↓cond_true, ↓cond_false, evC, evOp, XO.lit, setArgs, Tr.get_set, Option.bind_some, Option.map_some, cond_true, cond_false, maxI, maxFrom, minI, minFrom, aConv, aBinE, aEq, eqScal, aUn, evRes, fin, oneOf, if_true, if_false, callee, reduceCtorEq, Nat.reduceEqDiff, List.getElem?_cons_zero, List.getElem?_cons_succ, beq_self_eq_true, gt_iff_lt, List.head?_cons, AV.undef, eq_self, ne_eq, Int.reduceLT, Int.reduceLE, Int.reduceToNat, Int.reduceEq, Int.reduceNeg, Nat.reduceAdd, Nat.reduceLT, Nat.reduceLeDiff, Nat.reduceMul, Nat.reduceSub, ↓evDraw_nil, bir, putD, evDraw, trace, List.all_cons, List.all_nil, chk, stAt, again, sameV, sameL, sameA, AV.undef, Bool.and_self, Bool.and_true, decide_eq_true_eq, List.getElem?_nil, kM, AV.cells, AV.tup, List.drop_nil, List.append_nil, rdO, St.wr, List.length_cons, List.length_nil, List.take_succ_cons, List.take_zero, List.drop_succ_cons, List.drop_zero, List.cons_append, List.nil_append, Nat.reduceMul, aFill, evParts, rep, List.replicate_succ, List.replicate_zero, List.flatten_cons, List.flatten_nil, List.append_nil, newSl, newVar, evOpt, t0, t4, l4, p1, q, ce]
      refine .inr ⟨G.ext.trans x1, y.2, rfl, ?_⟩
      · unfold lays; rw [if_neg (by rw [c1 (by omega)]; decide), if_pos ce]
  · -- the list
    have t0 : T.get 0 = some (.slice (some (o, v, j)) 5 1 none) := t0
    have hr0 : S.rd o v j 1 = some [.iface 29 (.slice pm many.length em none)] := by have := rd_sub (m := 0) (l := 1) hrS (by decide); rwa [Nat.add_zero] at this
    have hmS := hm.ext G.ext
    cases hk : many.all okL with
    | false =>
      obtain ⟨S1, q, x1⟩ := T17e (k + 4) (n := 5) (c := none) (by decide) hr0 hmS hk
      rw [show k + 4 + many.length + 7 = k + many.length + 11 by omega] at q
      simp -implicitDefEqProofs -dsimp (maxSteps := 10000000) only [af8_l0, ↓kS, after_some, br_true, br_false, kC, ↓kQ, ↓Option.bind_some, ↓Option.map_some, ↓cond_true, ↓cond_false, evC, evOp, XO.lit, setArgs, Tr.get_set, Option.bind_some, Option.map_some, cond_true, cond_false, maxI, maxFrom, minI, minFrom, aConv, aBinE, aEq, eqScal, aUn, evRes, fin, oneOf, if_true, if_false, callee, reduceCtorEq, Nat.reduceEqDiff, List.getElem?_cons_zero, List.getElem?_cons_succ, beq_self_eq_true, gt_iff_lt, List.head?_cons, AV.undef, eq_self, ne_eq, Int.reduceLT, Int.reduceLE, Int.reduceToNat, Int.reduceEq, Int.reduceNeg, Nat.reduceAdd, Nat.reduceLT, Nat.reduceLeDiff, Nat.reduceMul, Nat.reduceSub, ↓evDraw_nil, bir, putD, evDraw, trace, List.all_cons, List.all_nil, chk, stAt, again, sameV, sameL, sameA, AV.undef, Bool.and_self, Bool.and_true, decide_eq_true_eq, List.getElem?_nil, kM, AV.cells, AV.tup, List.drop_nil, List.append_nil, rdO, St.wr, List.length_cons, List.length_nil, List.take_succ_cons, List.take_zero, List.drop_succ_cons, List.drop_zero, List.cons_append, List.nil_append, Nat.reduceMul, aFill, evParts, rep, List.replicate_succ, List.replicate_zero, List.flatten_cons, List.flatten_nil, List.append_nil, newSl, newVar, evOpt, t0, t4, l5, p0, q]
      refine .inr ⟨G.ext.trans x1, 12, rfl, ?_⟩
      · unfold lays; rw [if_pos hk]
    | true =>
      obtain ⟨S1, q, x1⟩ := T17l (k + 4) (n := 5) (c := none) (by decide) hr0 hmS hk
      rw [show k + 4 + many.length + 7 = k + many.length + 11 by omega] at q
      obtain ⟨p', e', S2, qa, G2⟩ := (G.more x1).app (M := many) (by show 0 + many.length ≤ 1000000; omega)
      have qa : aAppend 3 32 S1 (.slice p (outL many y.1 z.1 3).length e none) many.length (lcs many) = some (.slice p' many.length e' none, S2) := by
        have h : ([] ++ many : List Ly) = many := List.nil_append _
        have qa : aAppend 3 32 S1 (.slice p (outL many y.1 z.1 3).length e none) many.length (lcs many) = some (.slice p' ([] ++ many : List Ly).length e' none, S2) := qa
        rw [h] at qa; exact qa
      have G2 : Lg Sb S2 p' e' many := by
        have G2 : Lg Sb S2 p' e' ([] ++ many) := G2
        rwa [List.nil_append] at G2
      have hmS1 := hmS.ext x1
      have b1 : bnd (some (.int .i64 1)) 0 5 = some 1 := by rw [bnd_some (by omega) (by omega)]; rfl
      have hcut : aCut 1 (.slice (some (o, v, j)) 5 1 none) (some (.int .i64 1)) none none = some (.slice (some (o, v, j + 1)) 4 1 none) := by
        simp [aCut, b1, bnd_none, beq_dec]
      rcases pm with _ | ⟨ox, vx, ix⟩
      · have hzz := hmS1.nil rfl
        have q0 : aAppend 3 32 S1 (.slice p (outL many y.1 z.1 3).length e none) 0 [] = some (.slice p' many.length e' none, S2) := by
          rw [hzz] at qa ⊢; exact qa
        simp -implicitDefEqProofs -dsimp (maxSteps := 10000000) only [af8_l0, ↓kS, after_some, br_true, br_false, kC, ↓kQ, ↓Option.bind_some, ↓Option.map_some, ↓cond_true, ↓cond_false, evC, evOp, XO.lit, setArgs, Tr.get_set, Option.bind_some, Option.map_some, cond_true, cond_false, maxI, maxFrom, minI, minFrom, aConv, aBinE, aEq, eqScal, aUn, evRes, fin, oneOf, if_true, if_false, callee, reduceCtorEq, Nat.reduceEqDiff, List.getElem?_cons_zero, List.getElem?_cons_succ, beq_self_eq_true, gt_iff_lt, List.head?_cons, AV.undef, eq_self, ne_eq, Int.reduceLT, Int.reduceLE, Int.reduceToNat, Int.reduceEq, Int.reduceNeg, Nat.reduceAdd, Nat.reduceLT, Nat.reduceLeDiff, Nat.reduceMul, Nat.reduceSub, ↓evDraw_nil, bir, putD, evDraw, trace, List.all_cons, List.all_nil, chk, stAt, again, sameV, sameL, sameA, AV.undef, Bool.and_self, Bool.and_true, decide_eq_true_eq, List.getElem?_nil, kM, AV.cells, AV.tup, List.drop_nil, List.append_nil, rdO, St.wr, List.length_cons, List.length_nil, List.take_succ_cons, List.take_zero, List.drop_succ_cons, List.drop_zero, List.cons_append, List.nil_append, Nat.reduceMul, aFill, evParts, rep, List.replicate_succ, List.replicate_zero, List.flatten_cons, List.flatten_nil, List.append_nil, newSl, newVar, evOpt, t0, t4, l5, p0, q, q0, hcut]
        refine ⟨2, ⟨?_, ⟨p', e', ?_, G2⟩, fun _ => hk, fun h => absurd h (by decide), fun h => absurd h (by decide), by omega⟩, by show 2 < 3; omega⟩ <;> simp only [Tr.get_set, Nat.reduceEqDiff, if_false, if_true]
        · rfl
        · rfl
      · have hez := hmS1.ez.resolve_left (by simp)
        have hrx := (hmS1.at_ ox vx ix rfl).2
        subst hez
        simp -implicitDefEqProofs -dsimp (maxSteps := 10000000) only [af8_l0, ↓kS, after_some, br_true, br_false, kC, ↓kQ, ↓Option.bind_some, ↓Option.map_some, ↓cond_true, ↓cond_false, evC, evOp, XO.lit, setArgs, Tr.get_set, Option.bind_some, Option.map_some, cond_true, cond_false, maxI, maxFrom, minI, minFrom, aConv, aBinE, aEq, eqScal, aUn, evRes, fin, oneOf, if_true, if_false, callee, reduceCtorEq, Nat.reduceEqDiff, List.getElem?_cons_zero, List.getElem?_cons_succ, beq_self_eq_true, gt_iff_lt, List.head?_cons, AV.undef, eq_self, ne_eq, Int.reduceLT, Int.reduceLE, Int.reduceToNat, Int.reduceEq, Int.reduceNeg, Nat.reduceAdd, Nat.reduceLT, Nat.reduceLeDiff, Nat.reduceMul, Nat.reduceSub, ↓evDraw_nil, bir, putD, evDraw, trace, List.all_cons, List.all_nil, chk, stAt, again, sameV, sameL, sameA, AV.undef, Bool.and_self, Bool.and_true, decide_eq_true_eq, List.getElem?_nil, kM, AV.cells, AV.tup, List.drop_nil, List.append_nil, rdO, St.wr, List.length_cons, List.length_nil, List.take_succ_cons, List.take_zero, List.drop_succ_cons, List.drop_zero, List.cons_append, List.nil_append, Nat.reduceMul, aFill, evParts, rep, List.replicate_succ, List.replicate_zero, List.flatten_cons, List.flatten_nil, List.append_nil, newSl, newVar, evOpt, t0, t4, l5, p0, q, hrx, qa, hcut]
        refine ⟨2, ⟨?_, ⟨p', e', ?_, G2⟩, fun _ => hk, fun h => absurd h (by decide), fun h => absurd h (by decide), by omega⟩, by show 2 < 3; omega⟩ <;> simp only [Tr.get_set, Nat.reduceEqDiff, if_false, if_true]
        · rfl
        · rfl
end Go.Proofs.YtbfkhnpginlpdaaA
