/- Chapter 7: ValueParts. -/
import Derived.Test.YtbfkhnpginlpdaaVaC
set_option linter.unusedVariables false
set_option linter.unusedSimpArgs false
set_option maxRecDepth 10000
namespace Go.Proofs.YtbfkhnpginlpdaaA
open Go.RowKit
attribute [local congr] bind_congr1 map_congr1 cond_congr1 withX_congr after_congr br_congr gd_congr

set_option maxHeartbeats 16000000 in
theorem ev5 (k : Nat) {pa pb : Option (Nat × Nat × Nat)} {la lb : Nat} {S : St} (ha : Sl S pa la lks) (hb : Sl S pb lb lks) :
    ∃ S', evF Y AP (k + 31) 5 [.slice pa la 3 none, .slice pb lb 3 none] S = some (.bool true, S') := by
  suffices hh : ∃ w S', evF Y AP (k + 31) 5 [.slice pa la 3 none, .slice pb lb 3 none] S = some (w, S') ∧ w = .bool true by
    obtain ⟨w, S', h1, rfl⟩ := hh; exact ⟨S', h1⟩
  refine evF_goes (af := af5) (k := k + 30) rfl rfl rfl ?_
  simp -implicitDefEqProofs -dsimp (maxSteps := 10000000) only [af5, ↓kS, after_some, br_true, br_false, kC, ↓kQ, ↓Option.bind_some, ↓Option.map_some, ↓cond_true, ↓cond_false, evC, evOp, XO.lit, setArgs, Tr.tabG, Tr.tabS, Tr.tabL, Tr.get_lf, Option.bind_some, Option.map_some, cond_true, cond_false, maxI, maxFrom, minI, minFrom, aConv, aBinE, aEq, eqScal, aUn, evRes, fin, oneOf, if_true, if_false, callee, reduceCtorEq, Nat.reduceEqDiff, List.getElem?_cons_zero, List.getElem?_cons_succ, beq_self_eq_true, gt_iff_lt, List.head?_cons, AV.undef, eq_self, ne_eq, Int.reduceLT, Int.reduceLE, Int.reduceToNat, Int.reduceEq, Int.reduceNeg, Nat.reduceAdd, Nat.reduceLT, Nat.reduceLeDiff, Nat.reduceMul, Nat.reduceSub, ↓evDraw_nil, bir, putD, evDraw, trace, List.all_cons, List.all_nil, chk, stAt, again, sameV, sameL, sameA, AV.undef, Bool.and_self, Bool.and_true, decide_eq_true_eq, List.getElem?_nil, kM, AV.cells, AV.tup, List.drop_nil, List.append_nil, rdO, St.wr, List.length_cons, List.length_nil, List.take_succ_cons, List.take_zero, List.drop_succ_cons, List.drop_zero, List.cons_append, List.nil_append, Nat.reduceMul, aFill, evParts, rep, List.replicate_succ, List.replicate_zero, List.flatten_cons, List.flatten_nil, List.append_nil, newSl, newVar]
  refine .while (I52 S pa la (.slice pb lb 3 none) (.slice none 0 0 none)) id (min la 2) ⟨rfl, rfl, rfl, 0, none, 0, [], rfl, rfl, ⟨.nil _ _ _, .refl S, fun _ _ _ hp => (by cases hp)⟩, rfl, by omega, fun _ hx => (by cases hx)⟩ (by show min la 2 < k + 30; omega) fun m2 T2 S2 h2 => (round52 (k + 10) ha m2 T2 S2 h2).mono ?_
  intro r T1 S1 hq
  cases r with
  | normal => exact hq
  | ret => exact absurd hq.1 (by simp)
  | exit x =>
    obtain ⟨hi, ta, tb, tw, i5, p5, e5, X, t7, t5, G5, hX, hm5, hk5⟩ := hq
    cases hi
    simp -implicitDefEqProofs -dsimp (maxSteps := 10000000) only [↓kS, after_some, br_true, br_false, kC, ↓kQ, ↓Option.bind_some, ↓Option.map_some, ↓cond_true, ↓cond_false, evC, evOp, XO.lit, setArgs, Tr.get_set, Option.bind_some, Option.map_some, cond_true, cond_false, maxI, maxFrom, minI, minFrom, aConv, aBinE, aEq, eqScal, aUn, evRes, fin, oneOf, if_true, if_false, callee, reduceCtorEq, Nat.reduceEqDiff, List.getElem?_cons_zero, List.getElem?_cons_succ, beq_self_eq_true, gt_iff_lt, List.head?_cons, AV.undef, eq_self, ne_eq, Int.reduceLT, Int.reduceLE, Int.reduceToNat, Int.reduceEq, Int.reduceNeg, Nat.reduceAdd, Nat.reduceLT, Nat.reduceLeDiff, Nat.reduceMul, Nat.reduceSub, ↓evDraw_nil, bir, putD, evDraw, trace, List.all_cons, List.all_nil, chk, stAt, again, sameV, sameL, sameA, AV.undef, Bool.and_self, Bool.and_true, decide_eq_true_eq, List.getElem?_nil, kM, AV.cells, AV.tup, List.drop_nil, List.append_nil, rdO, St.wr, List.length_cons, List.length_nil, List.take_succ_cons, List.take_zero, List.drop_succ_cons, List.drop_zero, List.cons_append, List.nil_append, Nat.reduceMul, aFill, evParts, rep, List.replicate_succ, List.replicate_zero, List.flatten_cons, List.flatten_nil, List.append_nil, newSl, newVar]
    refine .while (I51 S1 pb lb (.slice pa la 3 none) (.slice p5 X.length e5 none)) id (min lb 2) ⟨?_, ?_, ?_, 0, none, 0, [], ?_, ?_, ⟨.nil _ _ _, .refl S1, fun _ _ _ hp => (by cases hp)⟩, rfl, by omega, fun _ hx => (by cases hx)⟩ (by show min lb 2 < k + 30; omega) fun m2 T2 S2 h2 => (round51 (k + 10) (hb.ext G5.ext) m2 T2 S2 h2).mono ?_
    rotate_right
    · intro r T2 S2 hq
      cases r with
      | normal => exact hq
      | ret => exact absurd hq.1 (by simp)
      | exit x =>
        obtain ⟨hi, tb2, ta2, t5, i6, p6, e6, Z, t8, t6, G6, hZ, hm6, hk6⟩ := hq
        cases hi
        have h5 := (Lr.of_vec G5.vec (by omega) fun x hx => by have := (hk5 x hx).2; omega).ext G6.ext
        have h6 := Lr.of_vec G6.vec (by omega) fun x hx => by have := (hk6 x hx).2; omega
        obtain ⟨C, hC⟩ : ∃ C, S2.alloc (.cells [.iface 29 (.slice p5 X.length e5 none), .iface 29 (.slice p6 Z.length e6 none)] 0 0 true) = C := ⟨_, rfl⟩
        have eC : Ext S2 C := by rw [← hC]; exact .alloc _ _
        have nC : C.next = S2.next + 1 := by rw [← hC]; rfl
        have rC : C.rd S2.next 0 0 2 = some (lvs [⟨p5, e5, X⟩, ⟨p6, e6, Z⟩]) := by rw [← hC, rd_alloc, if_pos rfl]; rfl
        obtain ⟨all, hall⟩ : ∃ all, X ++ Z = all := ⟨_, rfl⟩
        have hll : all.length = X.length + Z.length := by rw [← hall, List.length_append]
        obtain ⟨p9, e9, c9, S3, q8, x3, h9⟩ := T8 (k + 22 - all.length) (S := C) (o := S2.next) (v := 0) (j := 0) (rest := [⟨p5, e5, X⟩, ⟨p6, e6, Z⟩]) (all := all) (by omega) rC (fun x hx => by
          rcases List.mem_cons.1 hx with rfl | hx
          · exact ⟨h5.ext eC, List.all_eq_true.2 fun y hy => (hk5 y hy).1⟩
          · rw [List.mem_singleton] at hx; rw [hx]
            exact ⟨h6.ext eC, List.all_eq_true.2 fun y hy => (hk6 y hy).1⟩) (by simp [hall]) (by omega) (by simp) (by simp only [List.length_cons, List.length_nil]; omega)
        rw [show k + 22 - all.length + all.length + 8 = k + 30 by omega] at q8
        have q8 : evF Y AP (k + 30) 8 [.slice (some (S2.next, 0, 0)) 2 1 none] C = _ := q8
        have m5 := h5.mx; have m6 := h6.mx; have m9 := h9.mx
        have wl : IntKind.i64.wrap ((X.length : Int) + (Z.length : Int)) = (all.length : Int) := by rw [w64_id (by omega) (by omega)]; omega
        by_cases c1 : 3 < all.length
        · have c1' : (3 : Int) < (all.length : Int) := by omega
          rw [if_pos c1] at q8
          have q10 : evF Y AP (k + 30) 10 [] S3 = _ := y10 (k + 29) S3
          simp -implicitDefEqProofs -dsimp (maxSteps := 10000000) only [↓kS, after_some, br_true, br_false, kC, ↓kQ, ↓Option.bind_some, ↓Option.map_some, ↓cond_true, ↓cond_false, evC, evOp, XO.lit, setArgs, Tr.get_set, Option.bind_some, Option.map_some, cond_true, cond_false, maxI, maxFrom, minI, minFrom, aConv, aBinE, aEq, eqScal, aUn, evRes, fin, oneOf, if_true, if_false, callee, reduceCtorEq, Nat.reduceEqDiff, List.getElem?_cons_zero, List.getElem?_cons_succ, beq_self_eq_true, gt_iff_lt, List.head?_cons, AV.undef, eq_self, ne_eq, Int.reduceLT, Int.reduceLE, Int.reduceToNat, Int.reduceEq, Int.reduceNeg, Nat.reduceAdd, Nat.reduceLT, Nat.reduceLeDiff, Nat.reduceMul, Nat.reduceSub, ↓evDraw_nil, bir, putD, evDraw, trace, List.all_cons, List.all_nil, chk, stAt, again, sameV, sameL, sameA, AV.undef, Bool.and_self, Bool.and_true, decide_eq_true_eq, List.getElem?_nil, kM, AV.cells, AV.tup, List.drop_nil, List.append_nil, rdO, St.wr, List.length_cons, List.length_nil, List.take_succ_cons, List.take_zero, List.drop_succ_cons, List.drop_zero, List.cons_append, List.nil_append, Nat.reduceMul, aFill, evParts, rep, List.replicate_succ, List.replicate_zero, List.flatten_cons, List.flatten_nil, List.append_nil, newSl, newVar, t5, t6, hC, q8, m5, m6, wl, c1', q10, Int.natCast_zero, Nat.zero_le]
          exact ⟨_, _, rfl, rfl⟩
        · have c1' : ¬ (3 : Int) < (all.length : Int) := by omega
          rw [if_neg c1] at q8
          simp -implicitDefEqProofs -dsimp (maxSteps := 10000000) only [↓kS, after_some, br_true, br_false, kC, ↓kQ, ↓Option.bind_some, ↓Option.map_some, ↓cond_true, ↓cond_false, evC, evOp, XO.lit, setArgs, Tr.get_set, Option.bind_some, Option.map_some, cond_true, cond_false, maxI, maxFrom, minI, minFrom, aConv, aBinE, aEq, eqScal, aUn, evRes, fin, oneOf, if_true, if_false, callee, reduceCtorEq, Nat.reduceEqDiff, List.getElem?_cons_zero, List.getElem?_cons_succ, beq_self_eq_true, gt_iff_lt, List.head?_cons, AV.undef, eq_self, ne_eq, Int.reduceLT, Int.reduceLE, Int.reduceToNat, Int.reduceEq, Int.reduceNeg, Nat.reduceAdd, Nat.reduceLT, Nat.reduceLeDiff, Nat.reduceMul, Nat.reduceSub, ↓evDraw_nil, bir, putD, evDraw, trace, List.all_cons, List.all_nil, chk, stAt, again, sameV, sameL, sameA, AV.undef, Bool.and_self, Bool.and_true, decide_eq_true_eq, List.getElem?_nil, kM, AV.cells, AV.tup, List.drop_nil, List.append_nil, rdO, St.wr, List.length_cons, List.length_nil, List.take_succ_cons, List.take_zero, List.drop_succ_cons, List.drop_zero, List.cons_append, List.nil_append, Nat.reduceMul, aFill, evParts, rep, List.replicate_succ, List.replicate_zero, List.flatten_cons, List.flatten_nil, List.append_nil, newSl, newVar, t5, t6, hC, q8, m5, m6, m9, wl, c1']
          have h5' := h5.ext (eC.trans x3); have h6' := h6.ext (eC.trans x3)
          subst hall
          refine .while (I50 p5 p6 p9 e5 e6 e9 c9 X Z S3) id (X ++ Z).length ⟨rfl, ?_, ?_, ?_, ?_, 0, ?_, by omega⟩ (by show (X ++ Z).length < k + 30; omega) fun m4 T4 S4 h4 => (round50 (k + 10) h5' h6' h9 m4 T4 S4 h4).mono ?_
          rotate_right
          · intro r T4 S4 hq
            cases r with
            | normal => exact hq
            | ret => exact absurd hq.1 (by simp)
            | exit x =>
              obtain ⟨hi, hst, _⟩ := hq
              cases hi
              have q10 : evF Y AP (k + 30) 10 [] S4 = _ := y10 (k + 29) S4
              simp -implicitDefEqProofs -dsimp (maxSteps := 10000000) only [↓kS, after_some, br_true, br_false, kC, ↓kQ, ↓Option.bind_some, ↓Option.map_some, ↓cond_true, ↓cond_false, evC, evOp, XO.lit, setArgs, Tr.get_set, Option.bind_some, Option.map_some, cond_true, cond_false, maxI, maxFrom, minI, minFrom, aConv, aBinE, aEq, eqScal, aUn, evRes, fin, oneOf, if_true, if_false, callee, reduceCtorEq, Nat.reduceEqDiff, List.getElem?_cons_zero, List.getElem?_cons_succ, beq_self_eq_true, gt_iff_lt, List.head?_cons, AV.undef, eq_self, ne_eq, Int.reduceLT, Int.reduceLE, Int.reduceToNat, Int.reduceEq, Int.reduceNeg, Nat.reduceAdd, Nat.reduceLT, Nat.reduceLeDiff, Nat.reduceMul, Nat.reduceSub, ↓evDraw_nil, bir, putD, evDraw, trace, List.all_cons, List.all_nil, chk, stAt, again, sameV, sameL, sameA, AV.undef, Bool.and_self, Bool.and_true, decide_eq_true_eq, List.getElem?_nil, kM, AV.cells, AV.tup, List.drop_nil, List.append_nil, rdO, St.wr, List.length_cons, List.length_nil, List.take_succ_cons, List.take_zero, List.drop_succ_cons, List.drop_zero, List.cons_append, List.nil_append, Nat.reduceMul, aFill, evParts, rep, List.replicate_succ, List.replicate_zero, List.flatten_cons, List.flatten_nil, List.append_nil, newSl, newVar, q10]
              exact ⟨_, _, rfl, rfl⟩
          all_goals simp only [Tr.get_set, Nat.reduceEqDiff, if_false, if_true, t5, t6]
          all_goals rfl
    all_goals simp only [Tr.get_set, Nat.reduceEqDiff, if_false, if_true, ta, tb, tw, t5]
    all_goals rfl
theorem law5 {p1 p2 : Option (Nat × Nat × Nat)} {n1 n2 : Nat} {xs ys : List AV} (h1 : Arg p1 0 n1 lks xs) (h2 : Arg p2 1 n2 lks ys) :
    ∃ S', evF Y AP 31 5 [.slice p1 n1 3 none, .slice p2 n2 3 none] ((S0.alloc (.cells xs 0 0 false)).alloc (.cells ys 0 0 false)) = some (.bool true, S') :=
  ev5 0 (.of_arg h1 (by simp only [St.get_alloc]; rfl) (by show 0 < 2; decide)) (.of_arg h2 (by rw [St.get_alloc]; rfl) (by show 1 < 2; decide))
end Go.Proofs.YtbfkhnpginlpdaaA
