/- Chapter 7: Layers, of a list, three values, a layer: the whole. -/
import Derived.Test.YtbfkhnpginlpdaaVaI
set_option linter.unusedVariables false
set_option linter.unusedSimpArgs false
set_option maxRecDepth 10000
namespace Go.Proofs.YtbfkhnpginlpdaaA
open Go.RowKit
attribute [local congr] bind_congr1 map_congr1 cond_congr1 withX_congr after_congr br_congr gd_congr

theorem layP_len {s : List Nat} {n h : Int} (hs : s.length ≤ 9223372036854775807) : (layP s n h).1.r.length ≤ 9223372036854775807 := by
  unfold layP
  split
  · exact Nat.zero_le _
  · split
    · exact hs
    · exact Nat.zero_le _
theorem Lr.none (S : St) (e : Nat) : Lr S .none e [] := ⟨.inl rfl, fun _ => rfl, fun _ _ _ hp => (by cases hp), by simp, fun _ hx => (by cases hx)⟩
set_option maxHeartbeats 16000000 in
theorem T8g (k : Nat) {S : St} {o v j : Nat} {pm : Option (Nat × Nat × Nat)} {em : Nat} {many : List Ly} {s : List Nat} {w1 w2 : AV} {n h : Int} {x : Ly} (ho : o < S.next) (hr : S.rd o v j 5 = some [.iface 29 (.slice pm many.length em none), .iface 9 (.str s), w1, w2, .iface 28 (.agg (lyc x))]) (hm : Lr S pm em many) (hml : many.length ≤ 100000)
    (hs : s.length ≤ 9223372036854775807) (h1 : ∀ X k, evF Y AP (k + 3) 20 [w1] X = some (.tuple [.int .i64 n, .bool true], X)) (h2 : ∀ X k, evF Y AP (k + 3) 20 [w2] X = some (.tuple [.int .i64 h, .bool true], X)) (hxs : x.r.length ≤ 9223372036854775807) (hxu : 0 ≤ x.u ∧ x.u ≤ 4294967295) :
    ∃ p e c S', evF Y AP (k + many.length + 12) 8 [.slice (some (o, v, j)) 5 1 none] S = some (.tuple [.slice p (lays many (layP s n h) (layP x.r x.u x.h)).1.length e c, .int .i64 (lays many (layP s n h) (layP x.r x.u x.h)).2], S') ∧ Ext S S' ∧ Lr S' p e (lays many (layP s n h) (layP x.r x.u x.h)).1 := by
  obtain ⟨out, hout⟩ : ∃ out, lays many (layP s n h) (layP x.r x.u x.h) = out := ⟨_, rfl⟩
  suffices hh : ∃ w S', evF Y AP (k + many.length + 12) 8 [.slice (some (o, v, j)) 5 1 none] S = some (w, S') ∧ ∃ p e c, w = .tuple [.slice p out.1.length e c, .int .i64 out.2] ∧ Ext S S' ∧ Lr S' p e out.1 by
    rw [hout]
    obtain ⟨w, S', h1, p, e, c, rfl, h2⟩ := hh; exact ⟨p, e, c, S', h1, h2⟩
  refine evF_goes (af := af8) (k := k + many.length + 11) rfl rfl rfl ?_
  simp -implicitDefEqProofs -dsimp (maxSteps := 10000000) only [af8, ↓kS, after_some, br_true, br_false, kC, ↓kQ, ↓Option.bind_some, ↓Option.map_some, ↓cond_true, ↓cond_false, evC, evOp, XO.lit, setArgs, Tr.tabG, Tr.tabS, Tr.tabL, Tr.get_lf, Option.bind_some, Option.map_some, cond_true, cond_false, maxI, maxFrom, minI, minFrom, aConv, aBinE, aEq, eqScal, aUn, evRes, fin, oneOf, if_true, if_false, callee, reduceCtorEq, Nat.reduceEqDiff, List.getElem?_cons_zero, List.getElem?_cons_succ, beq_self_eq_true, gt_iff_lt, List.head?_cons, AV.undef, eq_self, ne_eq, Int.reduceLT, Int.reduceLE, Int.reduceToNat, Int.reduceEq, Int.reduceNeg, Nat.reduceAdd, Nat.reduceLT, Nat.reduceLeDiff, Nat.reduceMul, Nat.reduceSub, ↓evDraw_nil, bir, putD, evDraw, trace, List.all_cons, List.all_nil, chk, stAt, again, sameV, sameL, sameA, AV.undef, Bool.and_self, Bool.and_true, decide_eq_true_eq, List.getElem?_nil, kM, AV.cells, AV.tup, List.drop_nil, List.append_nil, rdO, St.wr, List.length_cons, List.length_nil, List.take_succ_cons, List.take_zero, List.drop_succ_cons, List.drop_zero, List.cons_append, List.nil_append, Nat.reduceMul, aFill, evParts, rep, List.replicate_succ, List.replicate_zero, List.flatten_cons, List.flatten_nil, List.append_nil, newSl, newVar]
  refine .while (I8g S o v j many (layP s n h) (layP x.r x.u x.h)) id 3 ⟨rfl, ⟨none, 0, rfl, .nil _ _ _, .refl S, fun _ _ _ hp => (by cases hp)⟩, fun h => absurd h (by decide), fun h => absurd h (by decide), fun h => absurd h (by decide), Nat.le_refl _⟩ (by show 3 < k + many.length + 11; omega) fun m2 T2 S2 h2' => (round8g k ho hr hm hml hs h1 h2 hxs hxu m2 T2 S2 h2').mono ?_
  intro r T' S' hq
  cases r with
  | normal => exact hq
  | ret =>
    rcases hq with ⟨h, _⟩ | ⟨_, ex, t2, er, t3, hl⟩
    · cases h
    · rw [hout] at hl
      subst hl
      simp -implicitDefEqProofs -dsimp (maxSteps := 10000000) only [↓kS, after_some, br_true, br_false, kC, ↓kQ, ↓Option.bind_some, ↓Option.map_some, ↓cond_true, ↓cond_false, evC, evOp, XO.lit, setArgs, Tr.get_set, Option.bind_some, Option.map_some, cond_true, cond_false, maxI, maxFrom, minI, minFrom, aConv, aBinE, aEq, eqScal, aUn, evRes, fin, oneOf, if_true, if_false, callee, reduceCtorEq, Nat.reduceEqDiff, List.getElem?_cons_zero, List.getElem?_cons_succ, beq_self_eq_true, gt_iff_lt, List.head?_cons, AV.undef, eq_self, ne_eq, Int.reduceLT, Int.reduceLE, Int.reduceToNat, Int.reduceEq, Int.reduceNeg, Nat.reduceAdd, Nat.reduceLT, Nat.reduceLeDiff, Nat.reduceMul, Nat.reduceSub, ↓evDraw_nil, bir, putD, evDraw, trace, List.all_cons, List.all_nil, chk, stAt, again, sameV, sameL, sameA, AV.undef, Bool.and_self, Bool.and_true, decide_eq_true_eq, List.getElem?_nil, kM, AV.cells, AV.tup, List.drop_nil, List.append_nil, rdO, St.wr, List.length_cons, List.length_nil, List.take_succ_cons, List.take_zero, List.drop_succ_cons, List.drop_zero, List.cons_append, List.nil_append, Nat.reduceMul, t2, t3]
      exact ⟨_, _, rfl, none, 0, none, rfl, ex, .none _ _⟩
  | exit i =>
    rcases hq with ⟨h, hI⟩ | ⟨h, _⟩
    rotate_left
    · cases h
    cases h
    obtain ⟨t0, ⟨p, e, t4, G⟩, c1, c2, c3, _⟩ := hI
    have c1 := c1 (by omega); have c2 := c2 (by omega); have c3 := c3 rfl
    obtain ⟨all, hall⟩ : ∃ all, many ++ [(layP s n h).1] ++ [(layP x.r x.u x.h).1] = all := ⟨_, rfl⟩
    have t4 : T'.get 4 = some (.slice p (many ++ [(layP s n h).1] ++ [(layP x.r x.u x.h).1]).length e none) := t4
    have G : Lg S S' p e (many ++ [(layP s n h).1] ++ [(layP x.r x.u x.h).1]) := G
    have hll : all.length = many.length + 2 := by rw [← hall]; simp
    have hst : ∀ z ∈ all, z.r.length ≤ 9223372036854775807 := by
      intro z hz
      rw [← hall] at hz
      rcases List.mem_append.1 hz with hz | hz
      · rcases List.mem_append.1 hz with hz | hz
        · exact hm.st z hz
        · rw [List.mem_singleton] at hz; rw [hz]; exact layP_len hs
      · rw [List.mem_singleton] at hz; rw [hz]; exact layP_len hxs
    have hmx : all.length ≤ 9223372036854775807 := by omega
    unfold lays at hout
    rw [if_neg (by rw [c1]; decide), if_neg (fun h => h c2), if_neg (fun h => h c3), hall] at hout
    rw [hall] at t4 G
    by_cases c4 : 3 < all.length
    · have c4' : (3 : Int) < (all.length : Int) := by omega
      rw [if_pos (by omega)] at hout
      subst hout
      simp -implicitDefEqProofs -dsimp (maxSteps := 10000000) only [↓kS, after_some, br_true, br_false, kC, ↓kQ, ↓Option.bind_some, ↓Option.map_some, ↓cond_true, ↓cond_false, evC, evOp, XO.lit, setArgs, Tr.get_set, Option.bind_some, Option.map_some, cond_true, cond_false, maxI, maxFrom, minI, minFrom, aConv, aBinE, aEq, eqScal, aUn, evRes, fin, oneOf, if_true, if_false, callee, reduceCtorEq, Nat.reduceEqDiff, List.getElem?_cons_zero, List.getElem?_cons_succ, beq_self_eq_true, gt_iff_lt, List.head?_cons, AV.undef, eq_self, ne_eq, Int.reduceLT, Int.reduceLE, Int.reduceToNat, Int.reduceEq, Int.reduceNeg, Nat.reduceAdd, Nat.reduceLT, Nat.reduceLeDiff, Nat.reduceMul, Nat.reduceSub, ↓evDraw_nil, bir, putD, evDraw, trace, List.all_cons, List.all_nil, chk, stAt, again, sameV, sameL, sameA, AV.undef, Bool.and_self, Bool.and_true, decide_eq_true_eq, List.getElem?_nil, kM, AV.cells, AV.tup, List.drop_nil, List.append_nil, rdO, St.wr, List.length_cons, List.length_nil, List.take_succ_cons, List.take_zero, List.drop_succ_cons, List.drop_zero, List.cons_append, List.nil_append, Nat.reduceMul, t4, hmx, c4']
      exact ⟨_, _, rfl, none, 0, none, rfl, G.ext, .none _ _⟩
    · have c4' : ¬ (3 : Int) < (all.length : Int) := by omega
      rw [if_neg (by omega)] at hout
      subst hout
      obtain ⟨p', e', c', q, hL'⟩ := T18 (k + many.length + 9) (Lr.of_vec G.vec (by omega) hst)
      have q : evF Y AP (k + many.length + 11) 18 [.slice p all.length e none] S' = _ := q
      simp -implicitDefEqProofs -dsimp (maxSteps := 10000000) only [↓kS, after_some, br_true, br_false, kC, ↓kQ, ↓Option.bind_some, ↓Option.map_some, ↓cond_true, ↓cond_false, evC, evOp, XO.lit, setArgs, Tr.get_set, Option.bind_some, Option.map_some, cond_true, cond_false, maxI, maxFrom, minI, minFrom, aConv, aBinE, aEq, eqScal, aUn, evRes, fin, oneOf, if_true, if_false, callee, reduceCtorEq, Nat.reduceEqDiff, List.getElem?_cons_zero, List.getElem?_cons_succ, beq_self_eq_true, gt_iff_lt, List.head?_cons, AV.undef, eq_self, ne_eq, Int.reduceLT, Int.reduceLE, Int.reduceToNat, Int.reduceEq, Int.reduceNeg, Nat.reduceAdd, Nat.reduceLT, Nat.reduceLeDiff, Nat.reduceMul, Nat.reduceSub, ↓evDraw_nil, bir, putD, evDraw, trace, List.all_cons, List.all_nil, chk, stAt, again, sameV, sameL, sameA, AV.undef, Bool.and_self, Bool.and_true, decide_eq_true_eq, List.getElem?_nil, kM, AV.cells, AV.tup, List.drop_nil, List.append_nil, rdO, St.wr, List.length_cons, List.length_nil, List.take_succ_cons, List.take_zero, List.drop_succ_cons, List.drop_zero, List.cons_append, List.nil_append, Nat.reduceMul, t4, hmx, c4', q]
      exact ⟨_, _, rfl, p', e', c', rfl, G.ext, hL'⟩
end Go.Proofs.YtbfkhnpginlpdaaA
