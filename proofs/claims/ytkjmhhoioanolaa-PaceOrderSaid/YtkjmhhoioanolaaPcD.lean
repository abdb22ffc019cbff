/- Chapter 11: the queue: New, Put, Tick, Rate, Len, Cut, Bucket. -/
import Derived.Test.YtkjmhhoioanolaaPcC
set_option linter.unusedVariables false
set_option linter.unusedSimpArgs false
set_option maxRecDepth 10000
namespace Go.Proofs.YtkjmhhoioanolaaA
open Go.RowKit
attribute [local congr] bind_congr1 map_congr1 cond_congr1 withX_congr after_congr br_congr gd_congr

/-- The queue q, its bucket ob; F: what it owns. -/
structure Qu (S : St) (F : Nat → Prop) (q ob : Nat) (rows : List (List Nat)) (b : Bk) (cut : Int) : Prop where
  fq : F q
  fb : F ob
  ne : ¬ q = ob
  bd : ∀ j, F j → j < S.next
  gb : S.get ob = some (bk b)
  ok : OkB b
  n16 : rows.length ≤ 16
  sz : ∀ l ∈ rows, l.length ≤ 140737488355328
  li : ∃ p e, S.get q = some (.cells [.slice p rows.length e none, pt ob, .int .i64 cut] 0 0 true) ∧ Rg S (fun j => F j ∧ ¬ j = q ∧ ¬ j = ob) (fun j => F j ∧ ¬ j = q ∧ ¬ j = ob) p e rows
theorem Qu.fr {S S' : St} {F G : Nat → Prop} {q ob : Nat} {rows : List (List Nat)} {b : Bk} {cut : Int} (h : Qu S F q ob rows b cut) (f : Fr S S' G) (hd : ∀ j, F j → ¬ G j) : Qu S' F q ob rows b cut := by
  obtain ⟨p, e, g, r⟩ := h.li
  exact ⟨h.fq, h.fb, h.ne, fun j hj => Nat.lt_of_lt_of_le (h.bd j hj) f.next, f.get (h.bd _ h.fb) (hd _ h.fb) h.gb, h.ok, h.n16, h.sz, p, e, f.get (h.bd _ h.fq) (hd _ h.fq) g, r.fr f (fun j _ hj => hd j hj.1) (fun j _ hj => hd j hj.1)⟩
theorem Qu.mono {S : St} {F F' : Nat → Prop} {q ob : Nat} {rows : List (List Nat)} {b : Bk} {cut : Int} (h : Qu S F q ob rows b cut) (hF : ∀ j, F j → F' j) (hb : ∀ j, F' j → j < S.next) : Qu S F' q ob rows b cut := by
  obtain ⟨p, e, g, r⟩ := h.li
  exact ⟨hF _ h.fq, hF _ h.fb, h.ne, hb, h.gb, h.ok, h.n16, h.sz, p, e, g, r.mono (fun j _ hj => ⟨hF j hj.1, hj.2⟩) (fun j _ hj => ⟨hF j hj.1, hj.2⟩)⟩
/-- The bucket is turned. -/
theorem Qu.bucket {S S' : St} {F : Nat → Prop} {q ob : Nat} {rows : List (List Nat)} {b b' : Bk} {cut : Int} (h : Qu S F q ob rows b cut) (u : Upd S S' ob (bk b')) (ok : OkB b') : Qu S' F q ob rows b' cut := by
  obtain ⟨p, e, g, r⟩ := h.li
  have f : Fr S S' (fun j => j = ob) := .of_upd u rfl
  exact ⟨h.fq, h.fb, h.ne, fun j hj => Nat.lt_of_lt_of_le (h.bd j hj) f.next, u.same, ok, h.n16, h.sz, p, e, by rw [u.else h.ne]; exact g, r.fr f (fun j _ hj => hj.2.2) (fun j _ hj => hj.2.2)⟩
/-- The queue's own cells are turned. -/
theorem Qu.cells {S S' : St} {F : Nat → Prop} {q ob : Nat} {rows : List (List Nat)} {b : Bk} {cut cut' : Int} {p : Option (Nat × Nat × Nat)} {e : Nat} {rows' : List (List Nat)} (h : Qu S F q ob rows b cut)
    (u : Upd S S' q (.cells [.slice p rows'.length e none, pt ob, .int .i64 cut'] 0 0 true)) (n16 : rows'.length ≤ 16) (sz : ∀ l ∈ rows', l.length ≤ 140737488355328) (r : Rg S (fun j => F j ∧ ¬ j = q ∧ ¬ j = ob) (fun j => F j ∧ ¬ j = q ∧ ¬ j = ob) p e rows') : Qu S' F q ob rows' b cut' := by
  have f : Fr S S' (fun j => j = q) := .of_upd u rfl
  exact ⟨h.fq, h.fb, h.ne, fun j hj => Nat.lt_of_lt_of_le (h.bd j hj) f.next, by rw [u.else fun e => h.ne e.symm]; exact h.gb, h.ok, n16, sz, p, e, u.same, r.fr f (fun j _ hj => hj.2.1) (fun j _ hj => hj.2.1)⟩
section
variable {S : St} {F : Nat → Prop} {q ob : Nat} {rows : List (List Nat)} {b : Bk} {cut : Int} (k : Nat)
theorem T7 (r u : Int) : ∃ S', evF Y AP (k + 8) 7 [.int .i64 r, .int .i64 u] S = some (pt (S.next + 1), S') ∧ Ext S S' ∧ S'.next = S.next + 2 ∧ Qu S' (fun j => S.next ≤ j ∧ j < S.next + 2) (S.next + 1) S.next [] (newB r u) 0 := by
  obtain ⟨S1, r1, b1⟩ := T16 (S := S) (k + 3) r u
  have r1 : evF Y AP (k + 7) 16 [.int .i64 r, .int .i64 u] S = _ := r1
  have n1 := b1.next
  have b2 := Born.one S1 (.cells [.slice none 0 0 none, pt S.next, .int .i64 0] 0 0 true)
  have n2 := b2.next
  have hne : ¬ S.next = S1.next := by omega
  refine ⟨S1.alloc (.cells [.slice none 0 0 none, pt S.next, .int .i64 0] 0 0 true), ?_, b1.ext.trans b2.ext, by omega, by show S.next ≤ S.next + 1 ∧ _; omega, by show S.next ≤ S.next ∧ _; omega, by omega, fun j hj => by omega, by rw [b2.else hne]; exact b1.same, newB_ok r u, by simp, by simp, none, 0, by rw [← n1]; exact b2.same, .nil _ _ _ _⟩
  rw [evF_body (af := af7) rfl rfl rfl]
  simp -implicitDefEqProofs -dsimp (maxSteps := 10000000) only [af7, ops_nil, ops_some, ops_none, oper_none, oper_some, gd_tt, gd_ff, gd_tf, gd_ft, gd_undef, ↓any_op, ↓any_call, ↓any_callV, ↓any_invoke, xo_t, xo_c, args_nil, args_cons, bin_add, bin_sub, bin_mul, bin_quo, bin_rem, bin_and, bin_or, bin_xor, bin_andNot, bin_eql, bin_neq, bin_lss, bin_leq, bin_gtr, bin_geq, bin_shl, bin_shr, bin_bools, bin_strs, bin_ptrs, bin_slices, bin_aggs, ↓Option.bind_some, ↓Option.map_some, ↓cond_true, ↓cond_false, evC, evOp, XO.lit, setArgs, Tr.tabG, Tr.tabS, Tr.tabL, Tr.get_lf, Option.bind_some, Option.map_some, cond_true, cond_false, maxI, maxFrom, minI, minFrom, aConv, aBinE, aEq, eqScal, aUn, evRes, fin, oneOf, if_true, if_false, callee, reduceCtorEq, Nat.reduceEqDiff, and_self, decide_true, decide_false, beq_true, beq_false, Bool.not_true, Bool.not_false, List.getElem?_cons_zero, List.getElem?_cons_succ, beq_self_eq_true, gt_iff_lt, ble_dec, beq_dec, List.head?_cons, AV.undef, eq_self, ne_eq, not_true_eq_false, not_false_eq_true, Int.reduceLT, Int.reduceLE, Int.reduceToNat, Int.reduceEq, Int.reduceNeg, Nat.reduceAdd, Nat.reduceLT, Nat.reduceLeDiff, Nat.reduceMul, Nat.reduceSub, ↓evDraw_nil, bir, putD, evDraw, trace, List.all_cons, List.all_nil, chk, stAt, again, sameV, sameL, sameA, AV.undef, Bool.and_self, Bool.and_true, decide_eq_true_eq, List.getElem?_nil, AV.cells, AV.tup, Bool.true_and, true_and, and_true, List.drop_nil, List.append_nil, rd_put, rd_alloc, rdO, St.get_put, St.get_alloc, St.next_put, St.next_alloc, St.wr, Bool.and_self, Bool.and_true, List.length_cons, List.length_nil, List.take_succ_cons, List.take_zero, List.drop_succ_cons, List.drop_zero, List.cons_append, List.nil_append, Nat.zero_add, Nat.add_zero, Nat.reduceMul, aFill, evParts, rep, List.replicate_succ, List.replicate_zero, List.flatten_cons, List.flatten_nil, List.append_nil, newSl, newVar, r1, n1]
theorem T17 {p : Option (Nat × Nat × Nat)} {n e : Nat} {c : Option Nat} (hn : n ≤ 140737488355328) : evF Y AP (k + 4) 17 [.slice p n e c] S = some (.int .i64 ((n : Int) + 28), S) := by
  have w : IntKind.i64.wrap ((n : Int) + 28) = (n : Int) + 28 := w64_id (by omega) (by omega)
  have hm : n ≤ 9223372036854775807 := by omega
  rw [evF_body (af := af17) rfl rfl rfl]
  simp -implicitDefEqProofs -dsimp (maxSteps := 10000000) only [af17, ops_nil, ops_some, ops_none, oper_none, oper_some, gd_tt, gd_ff, gd_tf, gd_ft, gd_undef, ↓any_op, ↓any_call, ↓any_callV, ↓any_invoke, xo_t, xo_c, args_nil, args_cons, bin_add, bin_sub, bin_mul, bin_quo, bin_rem, bin_and, bin_or, bin_xor, bin_andNot, bin_eql, bin_neq, bin_lss, bin_leq, bin_gtr, bin_geq, bin_shl, bin_shr, bin_bools, bin_strs, bin_ptrs, bin_slices, bin_aggs, ↓Option.bind_some, ↓Option.map_some, ↓cond_true, ↓cond_false, evC, evOp, XO.lit, setArgs, Tr.tabG, Tr.tabS, Tr.tabL, Tr.get_lf, Option.bind_some, Option.map_some, cond_true, cond_false, maxI, maxFrom, minI, minFrom, aConv, aBinE, aEq, eqScal, aUn, evRes, fin, oneOf, if_true, if_false, callee, reduceCtorEq, Nat.reduceEqDiff, and_self, decide_true, decide_false, beq_true, beq_false, Bool.not_true, Bool.not_false, List.getElem?_cons_zero, List.getElem?_cons_succ, beq_self_eq_true, gt_iff_lt, ble_dec, beq_dec, List.head?_cons, AV.undef, eq_self, ne_eq, not_true_eq_false, not_false_eq_true, Int.reduceLT, Int.reduceLE, Int.reduceToNat, Int.reduceEq, Int.reduceNeg, Nat.reduceAdd, Nat.reduceLT, Nat.reduceLeDiff, Nat.reduceMul, Nat.reduceSub, ↓evDraw_nil, bir, putD, evDraw, trace, List.all_cons, List.all_nil, chk, stAt, again, sameV, sameL, sameA, AV.undef, Bool.and_self, Bool.and_true, decide_eq_true_eq, List.getElem?_nil, AV.cells, AV.tup, Bool.true_and, true_and, and_true, List.drop_nil, List.append_nil, rd_put, rd_alloc, rdO, St.get_put, St.get_alloc, St.next_put, St.next_alloc, St.wr, Bool.and_self, Bool.and_true, List.length_cons, List.length_nil, List.take_succ_cons, List.take_zero, List.drop_succ_cons, List.drop_zero, List.cons_append, List.nil_append, Nat.zero_add, Nat.add_zero, Nat.reduceMul, aFill, evParts, rep, List.replicate_succ, List.replicate_zero, List.flatten_cons, List.flatten_nil, List.append_nil, newSl, newVar, hm, w]
theorem T12 (h : Qu S F q ob rows b cut) : evF Y AP (k + 4) 12 [pt q] S = some (.int .i64 rows.length, S) := by
  obtain ⟨p, e, g, _⟩ := h.li
  have hrd : ∀ v i m, S.rd q v i m = rdO (.cells [.slice p rows.length e none, pt ob, .int .i64 cut] 0 0 true) v i m := rd_of g
  have := h.n16
  have hm : rows.length ≤ 9223372036854775807 := by omega
  rw [evF_body (af := af12) rfl rfl rfl]
  simp -implicitDefEqProofs -dsimp (maxSteps := 10000000) only [af12, ops_nil, ops_some, ops_none, oper_none, oper_some, gd_tt, gd_ff, gd_tf, gd_ft, gd_undef, ↓any_op, ↓any_call, ↓any_callV, ↓any_invoke, xo_t, xo_c, args_nil, args_cons, bin_add, bin_sub, bin_mul, bin_quo, bin_rem, bin_and, bin_or, bin_xor, bin_andNot, bin_eql, bin_neq, bin_lss, bin_leq, bin_gtr, bin_geq, bin_shl, bin_shr, bin_bools, bin_strs, bin_ptrs, bin_slices, bin_aggs, ↓Option.bind_some, ↓Option.map_some, ↓cond_true, ↓cond_false, evC, evOp, XO.lit, setArgs, Tr.tabG, Tr.tabS, Tr.tabL, Tr.get_lf, Option.bind_some, Option.map_some, cond_true, cond_false, maxI, maxFrom, minI, minFrom, aConv, aBinE, aEq, eqScal, aUn, evRes, fin, oneOf, if_true, if_false, callee, reduceCtorEq, Nat.reduceEqDiff, and_self, decide_true, decide_false, beq_true, beq_false, Bool.not_true, Bool.not_false, List.getElem?_cons_zero, List.getElem?_cons_succ, beq_self_eq_true, gt_iff_lt, ble_dec, beq_dec, List.head?_cons, AV.undef, eq_self, ne_eq, not_true_eq_false, not_false_eq_true, Int.reduceLT, Int.reduceLE, Int.reduceToNat, Int.reduceEq, Int.reduceNeg, Nat.reduceAdd, Nat.reduceLT, Nat.reduceLeDiff, Nat.reduceMul, Nat.reduceSub, ↓evDraw_nil, bir, putD, evDraw, trace, List.all_cons, List.all_nil, chk, stAt, again, sameV, sameL, sameA, AV.undef, Bool.and_self, Bool.and_true, decide_eq_true_eq, List.getElem?_nil, AV.cells, AV.tup, Bool.true_and, true_and, and_true, List.drop_nil, List.append_nil, rd_put, rd_alloc, rdO, St.get_put, St.get_alloc, St.next_put, St.next_alloc, St.wr, Bool.and_self, Bool.and_true, List.length_cons, List.length_nil, List.take_succ_cons, List.take_zero, List.drop_succ_cons, List.drop_zero, List.cons_append, List.nil_append, Nat.zero_add, Nat.add_zero, Nat.reduceMul, aFill, evParts, rep, List.replicate_succ, List.replicate_zero, List.flatten_cons, List.flatten_nil, List.append_nil, newSl, newVar, hrd, hm]
theorem T14 (h : Qu S F q ob rows b cut) : evF Y AP (k + 4) 14 [pt q] S = some (.int .i64 cut, S) := by
  obtain ⟨p, e, g, _⟩ := h.li
  have hrd : ∀ v i m, S.rd q v i m = rdO (.cells [.slice p rows.length e none, pt ob, .int .i64 cut] 0 0 true) v i m := rd_of g
  rw [evF_body (af := af14) rfl rfl rfl]
  simp -implicitDefEqProofs -dsimp (maxSteps := 10000000) only [af14, ops_nil, ops_some, ops_none, oper_none, oper_some, gd_tt, gd_ff, gd_tf, gd_ft, gd_undef, ↓any_op, ↓any_call, ↓any_callV, ↓any_invoke, xo_t, xo_c, args_nil, args_cons, bin_add, bin_sub, bin_mul, bin_quo, bin_rem, bin_and, bin_or, bin_xor, bin_andNot, bin_eql, bin_neq, bin_lss, bin_leq, bin_gtr, bin_geq, bin_shl, bin_shr, bin_bools, bin_strs, bin_ptrs, bin_slices, bin_aggs, ↓Option.bind_some, ↓Option.map_some, ↓cond_true, ↓cond_false, evC, evOp, XO.lit, setArgs, Tr.tabG, Tr.tabS, Tr.tabL, Tr.get_lf, Option.bind_some, Option.map_some, cond_true, cond_false, maxI, maxFrom, minI, minFrom, aConv, aBinE, aEq, eqScal, aUn, evRes, fin, oneOf, if_true, if_false, callee, reduceCtorEq, Nat.reduceEqDiff, and_self, decide_true, decide_false, beq_true, beq_false, Bool.not_true, Bool.not_false, List.getElem?_cons_zero, List.getElem?_cons_succ, beq_self_eq_true, gt_iff_lt, ble_dec, beq_dec, List.head?_cons, AV.undef, eq_self, ne_eq, not_true_eq_false, not_false_eq_true, Int.reduceLT, Int.reduceLE, Int.reduceToNat, Int.reduceEq, Int.reduceNeg, Nat.reduceAdd, Nat.reduceLT, Nat.reduceLeDiff, Nat.reduceMul, Nat.reduceSub, ↓evDraw_nil, bir, putD, evDraw, trace, List.all_cons, List.all_nil, chk, stAt, again, sameV, sameL, sameA, AV.undef, Bool.and_self, Bool.and_true, decide_eq_true_eq, List.getElem?_nil, AV.cells, AV.tup, Bool.true_and, true_and, and_true, List.drop_nil, List.append_nil, rd_put, rd_alloc, rdO, St.get_put, St.get_alloc, St.next_put, St.next_alloc, St.wr, Bool.and_self, Bool.and_true, List.length_cons, List.length_nil, List.take_succ_cons, List.take_zero, List.drop_succ_cons, List.drop_zero, List.cons_append, List.nil_append, Nat.zero_add, Nat.add_zero, Nat.reduceMul, aFill, evParts, rep, List.replicate_succ, List.replicate_zero, List.flatten_cons, List.flatten_nil, List.append_nil, newSl, newVar, hrd]
theorem T23 (h : Qu S F q ob rows b cut) : evF Y AP (k + 4) 23 [pt q] S = some (pt ob, S) := by
  obtain ⟨p, e, g, _⟩ := h.li
  have hrd : ∀ v i m, S.rd q v i m = rdO (.cells [.slice p rows.length e none, pt ob, .int .i64 cut] 0 0 true) v i m := rd_of g
  rw [evF_body (af := af23) rfl rfl rfl]
  simp -implicitDefEqProofs -dsimp (maxSteps := 10000000) only [af23, ops_nil, ops_some, ops_none, oper_none, oper_some, gd_tt, gd_ff, gd_tf, gd_ft, gd_undef, ↓any_op, ↓any_call, ↓any_callV, ↓any_invoke, xo_t, xo_c, args_nil, args_cons, bin_add, bin_sub, bin_mul, bin_quo, bin_rem, bin_and, bin_or, bin_xor, bin_andNot, bin_eql, bin_neq, bin_lss, bin_leq, bin_gtr, bin_geq, bin_shl, bin_shr, bin_bools, bin_strs, bin_ptrs, bin_slices, bin_aggs, ↓Option.bind_some, ↓Option.map_some, ↓cond_true, ↓cond_false, evC, evOp, XO.lit, setArgs, Tr.tabG, Tr.tabS, Tr.tabL, Tr.get_lf, Option.bind_some, Option.map_some, cond_true, cond_false, maxI, maxFrom, minI, minFrom, aConv, aBinE, aEq, eqScal, aUn, evRes, fin, oneOf, if_true, if_false, callee, reduceCtorEq, Nat.reduceEqDiff, and_self, decide_true, decide_false, beq_true, beq_false, Bool.not_true, Bool.not_false, List.getElem?_cons_zero, List.getElem?_cons_succ, beq_self_eq_true, gt_iff_lt, ble_dec, beq_dec, List.head?_cons, AV.undef, eq_self, ne_eq, not_true_eq_false, not_false_eq_true, Int.reduceLT, Int.reduceLE, Int.reduceToNat, Int.reduceEq, Int.reduceNeg, Nat.reduceAdd, Nat.reduceLT, Nat.reduceLeDiff, Nat.reduceMul, Nat.reduceSub, ↓evDraw_nil, bir, putD, evDraw, trace, List.all_cons, List.all_nil, chk, stAt, again, sameV, sameL, sameA, AV.undef, Bool.and_self, Bool.and_true, decide_eq_true_eq, List.getElem?_nil, AV.cells, AV.tup, Bool.true_and, true_and, and_true, List.drop_nil, List.append_nil, rd_put, rd_alloc, rdO, St.get_put, St.get_alloc, St.next_put, St.next_alloc, St.wr, Bool.and_self, Bool.and_true, List.length_cons, List.length_nil, List.take_succ_cons, List.take_zero, List.drop_succ_cons, List.drop_zero, List.cons_append, List.nil_append, Nat.zero_add, Nat.add_zero, Nat.reduceMul, aFill, evParts, rep, List.replicate_succ, List.replicate_zero, List.flatten_cons, List.flatten_nil, List.append_nil, newSl, newVar, hrd]
theorem T10 (h : Qu S F q ob rows b cut) (n : Int) : ∃ S', evF Y AP (k + 8) 10 [pt q, .int .i64 n] S = some (.tuple [], S') ∧ Fr S S' F ∧ Qu S' F q ob rows (tickB b n) cut := by
  obtain ⟨p, e, g, _⟩ := h.li
  have hrd : ∀ v i m, S.rd q v i m = rdO (.cells [.slice p rows.length e none, pt ob, .int .i64 cut] 0 0 true) v i m := rd_of g
  obtain ⟨S1, r1, u1⟩ := T20 (k + 3) h.ok h.gb n
  have r1 : evF Y AP (k + 7) 20 [pt ob, .int .i64 n] S = _ := r1
  refine ⟨S1, ?_, .of_upd u1 h.fb, h.bucket u1 (tickB_ok h.ok n)⟩
  rw [evF_body (af := af10) rfl rfl rfl]
  simp -implicitDefEqProofs -dsimp (maxSteps := 10000000) only [af10, ops_nil, ops_some, ops_none, oper_none, oper_some, gd_tt, gd_ff, gd_tf, gd_ft, gd_undef, ↓any_op, ↓any_call, ↓any_callV, ↓any_invoke, xo_t, xo_c, args_nil, args_cons, bin_add, bin_sub, bin_mul, bin_quo, bin_rem, bin_and, bin_or, bin_xor, bin_andNot, bin_eql, bin_neq, bin_lss, bin_leq, bin_gtr, bin_geq, bin_shl, bin_shr, bin_bools, bin_strs, bin_ptrs, bin_slices, bin_aggs, ↓Option.bind_some, ↓Option.map_some, ↓cond_true, ↓cond_false, evC, evOp, XO.lit, setArgs, Tr.tabG, Tr.tabS, Tr.tabL, Tr.get_lf, Option.bind_some, Option.map_some, cond_true, cond_false, maxI, maxFrom, minI, minFrom, aConv, aBinE, aEq, eqScal, aUn, evRes, fin, oneOf, if_true, if_false, callee, reduceCtorEq, Nat.reduceEqDiff, and_self, decide_true, decide_false, beq_true, beq_false, Bool.not_true, Bool.not_false, List.getElem?_cons_zero, List.getElem?_cons_succ, beq_self_eq_true, gt_iff_lt, ble_dec, beq_dec, List.head?_cons, AV.undef, eq_self, ne_eq, not_true_eq_false, not_false_eq_true, Int.reduceLT, Int.reduceLE, Int.reduceToNat, Int.reduceEq, Int.reduceNeg, Nat.reduceAdd, Nat.reduceLT, Nat.reduceLeDiff, Nat.reduceMul, Nat.reduceSub, ↓evDraw_nil, bir, putD, evDraw, trace, List.all_cons, List.all_nil, chk, stAt, again, sameV, sameL, sameA, AV.undef, Bool.and_self, Bool.and_true, decide_eq_true_eq, List.getElem?_nil, AV.cells, AV.tup, Bool.true_and, true_and, and_true, List.drop_nil, List.append_nil, rd_put, rd_alloc, rdO, St.get_put, St.get_alloc, St.next_put, St.next_alloc, St.wr, Bool.and_self, Bool.and_true, List.length_cons, List.length_nil, List.take_succ_cons, List.take_zero, List.drop_succ_cons, List.drop_zero, List.cons_append, List.nil_append, Nat.zero_add, Nat.add_zero, Nat.reduceMul, aFill, evParts, rep, List.replicate_succ, List.replicate_zero, List.flatten_cons, List.flatten_nil, List.append_nil, newSl, newVar, hrd, r1]
theorem T29 (h : Qu S F q ob rows b cut) (n : Int) : ∃ S', evF Y AP (k + 8) 29 [pt q, .int .i64 n] S = some (.tuple [], S') ∧ Fr S S' F ∧ Qu S' F q ob rows (rateB b n) cut := by
  obtain ⟨p, e, g, _⟩ := h.li
  have hrd : ∀ v i m, S.rd q v i m = rdO (.cells [.slice p rows.length e none, pt ob, .int .i64 cut] 0 0 true) v i m := rd_of g
  obtain ⟨S1, r1, u1⟩ := T39 (k + 3) h.gb n
  have r1 : evF Y AP (k + 7) 39 [pt ob, .int .i64 n] S = _ := r1
  refine ⟨S1, ?_, .of_upd u1 h.fb, h.bucket u1 (rateB_ok h.ok n)⟩
  rw [evF_body (af := af29) rfl rfl rfl]
  simp -implicitDefEqProofs -dsimp (maxSteps := 10000000) only [af29, ops_nil, ops_some, ops_none, oper_none, oper_some, gd_tt, gd_ff, gd_tf, gd_ft, gd_undef, ↓any_op, ↓any_call, ↓any_callV, ↓any_invoke, xo_t, xo_c, args_nil, args_cons, bin_add, bin_sub, bin_mul, bin_quo, bin_rem, bin_and, bin_or, bin_xor, bin_andNot, bin_eql, bin_neq, bin_lss, bin_leq, bin_gtr, bin_geq, bin_shl, bin_shr, bin_bools, bin_strs, bin_ptrs, bin_slices, bin_aggs, ↓Option.bind_some, ↓Option.map_some, ↓cond_true, ↓cond_false, evC, evOp, XO.lit, setArgs, Tr.tabG, Tr.tabS, Tr.tabL, Tr.get_lf, Option.bind_some, Option.map_some, cond_true, cond_false, maxI, maxFrom, minI, minFrom, aConv, aBinE, aEq, eqScal, aUn, evRes, fin, oneOf, if_true, if_false, callee, reduceCtorEq, Nat.reduceEqDiff, and_self, decide_true, decide_false, beq_true, beq_false, Bool.not_true, Bool.not_false, List.getElem?_cons_zero, List.getElem?_cons_succ, beq_self_eq_true, gt_iff_lt, ble_dec, beq_dec, List.head?_cons, AV.undef, eq_self, ne_eq, not_true_eq_false, not_false_eq_true, Int.reduceLT, Int.reduceLE, Int.reduceToNat, Int.reduceEq, Int.reduceNeg, Nat.reduceAdd, Nat.reduceLT, Nat.reduceLeDiff, Nat.reduceMul, Nat.reduceSub, ↓evDraw_nil, bir, putD, evDraw, trace, List.all_cons, List.all_nil, chk, stAt, again, sameV, sameL, sameA, AV.undef, Bool.and_self, Bool.and_true, decide_eq_true_eq, List.getElem?_nil, AV.cells, AV.tup, Bool.true_and, true_and, and_true, List.drop_nil, List.append_nil, rd_put, rd_alloc, rdO, St.get_put, St.get_alloc, St.next_put, St.next_alloc, St.wr, Bool.and_self, Bool.and_true, List.length_cons, List.length_nil, List.take_succ_cons, List.take_zero, List.drop_succ_cons, List.drop_zero, List.cons_append, List.nil_append, Nat.zero_add, Nat.add_zero, Nat.reduceMul, aFill, evParts, rep, List.replicate_succ, List.replicate_zero, List.flatten_cons, List.flatten_nil, List.append_nil, newSl, newVar, hrd, r1]
/-- Whether a row is taken; what waits then; how many were cut. -/
def putB (rows : List (List Nat)) (b : Bk) (l : List Nat) : Bool := decide (rows.length < 16 ∧ (l.length : Int) + 28 ≤ b.u)
def putR (rows : List (List Nat)) (b : Bk) (l : List Nat) : List (List Nat) := if putB rows b l = true then rows ++ [l] else rows
def putC (rows : List (List Nat)) (b : Bk) (l : List Nat) (cut : Int) : Int := if putB rows b l = true then cut else IntKind.i64.wrap (cut + 1)
set_option maxHeartbeats 4000000 in
theorem T9 (h : Qu S F q ob rows b cut) {p : Option (Nat × Nat × Nat)} {e : Nat} {c : Option Nat} {l : List Nat} (hb : By S p e l) (hl : l.length ≤ 140737488355328) :
    ∃ S', evF Y AP (k + 8) 9 [pt q, .slice p l.length e c] S = some (.bool (putB rows b l), S') ∧ Fr S S' F ∧ Qu S' (Own S S' F) q ob (putR rows b l) b (putC rows b l cut) := by
  obtain ⟨pl, el, g, rg⟩ := h.li
  have hrd : ∀ v i m, S.rd q v i m = rdO (.cells [.slice pl rows.length el none, pt ob, .int .i64 cut] 0 0 true) v i m := rd_of g
  have n16 := h.n16
  have hm : rows.length ≤ 9223372036854775807 := by omega
  have r17 : evF Y AP (k + 7) 17 [.slice p l.length e c] S = some (.int .i64 ((l.length : Int) + 28), S) := T17 (k + 3) hl
  have r18 : evF Y AP (k + 7) 18 [pt ob] S = some (.int .i64 b.u, S) := T18 (k + 3) h.gb
  have own0 : ∀ S' j, F j → Own S S' F j := fun S' j hj => .inl hj
  have ownb : ∀ S', S.next ≤ S'.next → ∀ j, Own S S' F j → j < S'.next := fun S' hn j hj => hj.elim (fun hj => Nat.lt_of_lt_of_le (h.bd j hj) hn) fun hj => hj.2
  by_cases c1 : (16 : Int) ≤ rows.length
  · have hp : putB rows b l = false := by simp only [putB, decide_eq_false_iff_not]; omega
    have u := Upd.one S q (.cells [.slice pl rows.length el none, pt ob, .int .i64 (IntKind.i64.wrap (cut + 1))] 0 0 true)
    have Q := h.cells u n16 h.sz rg
    refine ⟨_, ?_, .of_upd u h.fq, ?_⟩
    · rw [evF_body (af := af9) rfl rfl rfl, hp]
      simp -implicitDefEqProofs -dsimp (maxSteps := 10000000) only [af9, ops_nil, ops_some, ops_none, oper_none, oper_some, gd_tt, gd_ff, gd_tf, gd_ft, gd_undef, ↓any_op, ↓any_call, ↓any_callV, ↓any_invoke, xo_t, xo_c, args_nil, args_cons, bin_add, bin_sub, bin_mul, bin_quo, bin_rem, bin_and, bin_or, bin_xor, bin_andNot, bin_eql, bin_neq, bin_lss, bin_leq, bin_gtr, bin_geq, bin_shl, bin_shr, bin_bools, bin_strs, bin_ptrs, bin_slices, bin_aggs, ↓Option.bind_some, ↓Option.map_some, ↓cond_true, ↓cond_false, evC, evOp, XO.lit, setArgs, Tr.tabG, Tr.tabS, Tr.tabL, Tr.get_lf, Option.bind_some, Option.map_some, cond_true, cond_false, maxI, maxFrom, minI, minFrom, aConv, aBinE, aEq, eqScal, aUn, evRes, fin, oneOf, if_true, if_false, callee, reduceCtorEq, Nat.reduceEqDiff, and_self, decide_true, decide_false, beq_true, beq_false, Bool.not_true, Bool.not_false, List.getElem?_cons_zero, List.getElem?_cons_succ, beq_self_eq_true, gt_iff_lt, ble_dec, beq_dec, List.head?_cons, AV.undef, eq_self, ne_eq, not_true_eq_false, not_false_eq_true, Int.reduceLT, Int.reduceLE, Int.reduceToNat, Int.reduceEq, Int.reduceNeg, Nat.reduceAdd, Nat.reduceLT, Nat.reduceLeDiff, Nat.reduceMul, Nat.reduceSub, ↓evDraw_nil, bir, putD, evDraw, trace, List.all_cons, List.all_nil, chk, stAt, again, sameV, sameL, sameA, AV.undef, Bool.and_self, Bool.and_true, decide_eq_true_eq, List.getElem?_nil, AV.cells, AV.tup, Bool.true_and, true_and, and_true, List.drop_nil, List.append_nil, rd_put, rd_alloc, rdO, St.get_put, St.get_alloc, St.next_put, St.next_alloc, St.wr, Bool.and_self, Bool.and_true, List.length_cons, List.length_nil, List.take_succ_cons, List.take_zero, List.drop_succ_cons, List.drop_zero, List.cons_append, List.nil_append, Nat.zero_add, Nat.add_zero, Nat.reduceMul, aFill, evParts, rep, List.replicate_succ, List.replicate_zero, List.flatten_cons, List.flatten_nil, List.append_nil, newSl, newVar, hrd, hm, c1, g]
    · simp only [putR, putC, hp, Bool.false_eq_true, if_false]
      exact Q.mono (own0 _) (ownb _ (by rw [u.next]; exact Nat.le_refl _))
  by_cases c2 : b.u < (l.length : Int) + 28
  · have hp : putB rows b l = false := by simp only [putB, decide_eq_false_iff_not]; omega
    have u := Upd.one S q (.cells [.slice pl rows.length el none, pt ob, .int .i64 (IntKind.i64.wrap (cut + 1))] 0 0 true)
    have Q := h.cells u n16 h.sz rg
    refine ⟨_, ?_, .of_upd u h.fq, ?_⟩
    · rw [evF_body (af := af9) rfl rfl rfl, hp]
      simp -implicitDefEqProofs -dsimp (maxSteps := 10000000) only [af9, ops_nil, ops_some, ops_none, oper_none, oper_some, gd_tt, gd_ff, gd_tf, gd_ft, gd_undef, ↓any_op, ↓any_call, ↓any_callV, ↓any_invoke, xo_t, xo_c, args_nil, args_cons, bin_add, bin_sub, bin_mul, bin_quo, bin_rem, bin_and, bin_or, bin_xor, bin_andNot, bin_eql, bin_neq, bin_lss, bin_leq, bin_gtr, bin_geq, bin_shl, bin_shr, bin_bools, bin_strs, bin_ptrs, bin_slices, bin_aggs, ↓Option.bind_some, ↓Option.map_some, ↓cond_true, ↓cond_false, evC, evOp, XO.lit, setArgs, Tr.tabG, Tr.tabS, Tr.tabL, Tr.get_lf, Option.bind_some, Option.map_some, cond_true, cond_false, maxI, maxFrom, minI, minFrom, aConv, aBinE, aEq, eqScal, aUn, evRes, fin, oneOf, if_true, if_false, callee, reduceCtorEq, Nat.reduceEqDiff, and_self, decide_true, decide_false, beq_true, beq_false, Bool.not_true, Bool.not_false, List.getElem?_cons_zero, List.getElem?_cons_succ, beq_self_eq_true, gt_iff_lt, ble_dec, beq_dec, List.head?_cons, AV.undef, eq_self, ne_eq, not_true_eq_false, not_false_eq_true, Int.reduceLT, Int.reduceLE, Int.reduceToNat, Int.reduceEq, Int.reduceNeg, Nat.reduceAdd, Nat.reduceLT, Nat.reduceLeDiff, Nat.reduceMul, Nat.reduceSub, ↓evDraw_nil, bir, putD, evDraw, trace, List.all_cons, List.all_nil, chk, stAt, again, sameV, sameL, sameA, AV.undef, Bool.and_self, Bool.and_true, decide_eq_true_eq, List.getElem?_nil, AV.cells, AV.tup, Bool.true_and, true_and, and_true, List.drop_nil, List.append_nil, rd_put, rd_alloc, rdO, St.get_put, St.get_alloc, St.next_put, St.next_alloc, St.wr, Bool.and_self, Bool.and_true, List.length_cons, List.length_nil, List.take_succ_cons, List.take_zero, List.drop_succ_cons, List.drop_zero, List.cons_append, List.nil_append, Nat.zero_add, Nat.add_zero, Nat.reduceMul, aFill, evParts, rep, List.replicate_succ, List.replicate_zero, List.flatten_cons, List.flatten_nil, List.append_nil, newSl, newVar, hrd, hm, c1, c2, g, r17, r18]
    · simp only [putR, putC, hp, Bool.false_eq_true, if_false]
      exact Q.mono (own0 _) (ownb _ (by rw [u.next]; exact Nat.le_refl _))
  have hp : putB rows b l = true := by simp only [putB, decide_eq_true_eq]; omega
  obtain ⟨p1, e1, S1, r1, g1⟩ := T19 (k + 4) (c := c) hb hl
  have r1 : evF Y AP (k + 7) 19 [.slice p l.length e c] S = _ := r1
  have by1 := g1.by_ (by omega)
  have n1 := g1.ext.next
  have fq := h.bd _ h.fq
  obtain ⟨A, hA⟩ : ∃ A, S1.alloc (.cells [.slice p1 l.length e1 none] 0 0 true) = A := ⟨_, rfl⟩
  have eA : Ext S1 A := by rw [← hA]; exact .alloc _ _
  have nA : A.next = S1.next + 1 := by rw [← hA]; rfl
  have gA : A.get q = some (.cells [.slice pl rows.length el none, pt ob, .int .i64 cut] 0 0 true) := (g1.ext.trans eA).get fq g
  have rowA : Row A (fun j => S.next ≤ j ∧ j < S1.next) (.slice p1 l.length e1 none) l := ⟨p1, e1, none, rfl, by1.ext eA, fun o v i hp => ⟨g1.new o v i hp, (by1.at_ o v i hp).1⟩⟩
  have QA : Qu A (fun j => F j ∨ S.next ≤ j ∧ j < S1.next) q ob rows b cut := by
    refine ((h.fr (.of_ext g1.ext (fun _ => False)) fun _ _ h => h).fr (.of_ext eA (fun _ => False)) fun _ _ h => h).mono (fun j hj => .inl hj) fun j hj => ?_
    rcases hj with hj | hj
    · have := h.bd j hj; omega
    · omega
  have rgA : Rg A (fun j => F j ∧ ¬ j = q ∧ ¬ j = ob) (fun j => (F j ∨ S.next ≤ j ∧ j < S1.next) ∧ ¬ j = q ∧ ¬ j = ob) pl el rows :=
    (rg.fr (.of_ext (g1.ext.trans eA) (fun _ => False)) (fun _ _ _ h => h) (fun _ _ _ h => h)).mono (fun j _ hj => hj) (fun j _ hj => ⟨.inl hj.1, hj.2⟩)
  obtain ⟨p2, S2, r2, rg2, f2, n2⟩ := rgA.app rowA (fun j _ hj => ⟨⟨.inr hj, by have := h.bd _ h.fq; omega, by have := h.bd _ h.fb; omega⟩, fun hl => by have := h.bd _ hl.1; omega⟩) (by omega)
  have gq2 : S2.get q = some (.cells [.slice pl rows.length el none, pt ob, .int .i64 cut] 0 0 true) := f2.get (by omega) (fun hh => hh.2.1 rfl) gA
  have u := Upd.one S2 q (.cells [.slice p2 (rows.length + 1) 1 none, pt ob, .int .i64 cut] 0 0 true)
  have nF : A.next ≤ S2.next := f2.next
  have fF : Fr S (S2.put q (.cells [.slice p2 (rows.length + 1) 1 none, pt ob, .int .i64 cut] 0 0 true)) F :=
    ((Fr.of_ext (g1.ext.trans eA) F).then (f2.mono fun j _ hj => hj.1)).then (.of_upd u h.fq)
  refine ⟨_, ?_, fF, ?_⟩
  · have no1 : ¬ q = S1.next := by omega
    have hrdA : ∀ v i m, A.rd q v i m = rdO (.cells [.slice pl rows.length el none, pt ob, .int .i64 cut] 0 0 true) v i m := rd_of gA
    have hrd1 : ∀ v i m, S1.rd q v i m = rdO (.cells [.slice pl rows.length el none, pt ob, .int .i64 cut] 0 0 true) v i m := rd_of (g1.ext.get fq g)
    have hrdS : A.rd S1.next 0 0 1 = some [.slice p1 l.length e1 none] := by rw [← hA, rd_alloc, if_pos rfl]; rfl
    rw [evF_body (af := af9) rfl rfl rfl, hp]
    simp -implicitDefEqProofs -dsimp (maxSteps := 10000000) only [af9, ops_nil, ops_some, ops_none, oper_none, oper_some, gd_tt, gd_ff, gd_tf, gd_ft, gd_undef, ↓any_op, ↓any_call, ↓any_callV, ↓any_invoke, xo_t, xo_c, args_nil, args_cons, bin_add, bin_sub, bin_mul, bin_quo, bin_rem, bin_and, bin_or, bin_xor, bin_andNot, bin_eql, bin_neq, bin_lss, bin_leq, bin_gtr, bin_geq, bin_shl, bin_shr, bin_bools, bin_strs, bin_ptrs, bin_slices, bin_aggs, ↓Option.bind_some, ↓Option.map_some, ↓cond_true, ↓cond_false, evC, evOp, XO.lit, setArgs, Tr.tabG, Tr.tabS, Tr.tabL, Tr.get_lf, Option.bind_some, Option.map_some, cond_true, cond_false, maxI, maxFrom, minI, minFrom, aConv, aBinE, aEq, eqScal, aUn, evRes, fin, oneOf, if_true, if_false, callee, reduceCtorEq, Nat.reduceEqDiff, and_self, decide_true, decide_false, beq_true, beq_false, Bool.not_true, Bool.not_false, List.getElem?_cons_zero, List.getElem?_cons_succ, beq_self_eq_true, gt_iff_lt, ble_dec, beq_dec, List.head?_cons, AV.undef, eq_self, ne_eq, not_true_eq_false, not_false_eq_true, Int.reduceLT, Int.reduceLE, Int.reduceToNat, Int.reduceEq, Int.reduceNeg, Nat.reduceAdd, Nat.reduceLT, Nat.reduceLeDiff, Nat.reduceMul, Nat.reduceSub, ↓evDraw_nil, bir, putD, evDraw, trace, List.all_cons, List.all_nil, chk, stAt, again, sameV, sameL, sameA, AV.undef, Bool.and_self, Bool.and_true, decide_eq_true_eq, List.getElem?_nil, AV.cells, AV.tup, Bool.true_and, true_and, and_true, List.drop_nil, List.append_nil, rd_put, rd_alloc, rdO, St.get_put, St.get_alloc, St.next_put, St.next_alloc, St.wr, Bool.and_self, Bool.and_true, List.length_cons, List.length_nil, List.take_succ_cons, List.take_zero, List.drop_succ_cons, List.drop_zero, List.cons_append, List.nil_append, Nat.zero_add, Nat.add_zero, Nat.reduceMul, aFill, evParts, rep, List.replicate_succ, List.replicate_zero, List.flatten_cons, List.flatten_nil, List.append_nil, newSl, newVar, hrd, hm, c1, c2, g, r17, r18, r1, hA, hrd1, hrdA, hrdS, r2, gq2, no1]
  · simp only [putR, putC, hp, if_true]
    refine ⟨.inl h.fq, .inl h.fb, h.ne, ownb _ fF.next, ?_, h.ok, by rw [List.length_append]; simp only [List.length_cons, List.length_nil]; omega, ?_, p2, 1, ?_, ?_⟩
    · rw [u.else fun e => h.ne e.symm]
      exact f2.get (by have := h.bd _ h.fb; omega) (fun hh => hh.2.2 rfl) ((g1.ext.trans eA).get (h.bd _ h.fb) h.gb)
    · intro x hx
      rcases List.mem_append.1 hx with hx | hx
      · exact h.sz x hx
      · rw [List.mem_singleton.1 hx]; exact hl
    · rw [List.length_append]; exact u.same
    · have hS2 : ∀ j, j < S2.next → (F j ∨ S.next ≤ j ∧ j < S1.next) ∨ j = A.next → Own S (S2.put q (.cells [.slice p2 (rows.length + 1) 1 none, pt ob, .int .i64 cut] 0 0 true)) F j := by
        intro j hj hh
        rcases hh with (hh | hh) | hh
        · exact .inl hh
        · exact .inr ⟨hh.1, hj⟩
        · exact .inr ⟨by omega, hj⟩
      have fq' : ¬ A.next = q := by omega
      have fb' : ¬ A.next = ob := by have := h.bd _ h.fb; omega
      refine (rg2.mono (L' := fun j => Own S _ F j ∧ ¬ j = q ∧ ¬ j = ob) (R' := fun j => Own S _ F j ∧ ¬ j = q ∧ ¬ j = ob) (fun j hj hh => ?_) (fun j hj hh => ⟨hS2 j hj (.inl hh.1), hh.2⟩)).fr (.of_upd (G := fun j => j = q) u rfl) (fun j _ hj => hj.2.1) (fun j _ hj => hj.2.1)
      rcases hh with hh | hh
      · exact ⟨.inl hh.1, hh.2⟩
      · exact ⟨hS2 j hj (.inr hh), by rw [hh]; exact fq', by rw [hh]; exact fb'⟩
end
end Go.Proofs.YtkjmhhoioanolaaA
