/- Chapter 11: both queues, step by step. -/
import Derived.Test.YtkjmhhoioanolaaPcH
set_option linter.unusedVariables false
set_option linter.unusedSimpArgs false
set_option maxRecDepth 10000
namespace Go.Proofs.YtkjmhhoioanolaaA
open Go.RowKit
attribute [local congr] bind_congr1 map_congr1 cond_congr1 withX_congr after_congr br_congr gd_congr

theorem rep_bv (n : Nat) : rep n [.int .u8 0] = bv (List.replicate n 0) := by
  induction n with
  | zero => rfl
  | succ n ih => rw [List.replicate_succ]; show .int .u8 0 :: rep n [.int .u8 0] = _; rw [ih]; rfl
theorem Byt.zeros (n : Nat) : Byt (List.replicate n 0) := fun b hb => by rw [List.eq_of_mem_replicate hb]; decide
/-- A row filled. -/
structure IF (o n i : Nat) (v2 v7 v8 v10 : AV) (Sb : St) (m : Nat) (T : Tm) (S : St) : Prop where
  t2 : T.get 2 = some v2
  t7 : T.get 7 = some v7
  t8 : T.get 8 = some v8
  t9 : T.get 9 = some (.int .i64 (i : Int))
  t10 : T.get 10 = some v10
  t11 : T.get 11 = some (.slice (some (o, 0, 0)) n 1 none)
  t47 : T.get 47 = some (.int .i64 n)
  more : ∃ (l : List Nat) (j : Nat), T.get 48 = some (.int .i64 j) ∧ j + m = n ∧ Byt l ∧ l.length = n ∧ Upd Sb S o (.cells (bv l) 0 0 true)
set_option maxHeartbeats 4000000 in
theorem roundF (k : Nat) {o n i : Nat} {v2 v7 v8 v10 : AV} {Sb : St} (hi : i < 100) (hn : n < 1024) (m : Nat) (T : Tm) (S : St) (hI : IF o n i v2 v7 v8 v10 Sb m T S) :
    Goes (evF Y AP (k + 1999)) (k + 1999) af15_l0 T S (Then (fun T' S' => ∃ m', IF o n i v2 v7 v8 v10 Sb m' T' S' ∧ id m' < id m) fun r T' S' => r = .exit 3 ∧ IF o n i v2 v7 v8 v10 Sb m T' S') := by
  obtain ⟨t2, t7, t8, t9, t10, t11, t47, l, j, t48, hj, bl, hl, u⟩ := hI
  by_cases c1 : (j : Int) < (n : Int)
  rotate_left
  · simp -implicitDefEqProofs -dsimp (maxSteps := 10000000) only [af15_l0, ↓goes_loop, ↓goes_seq, ↓goes_reg, ↓goes_dreg, ↓goes_cond, ↓goes_block, ↓goes_skip, ↓goes_exit, ↓goes_ret, after_some, br_true, br_false, ↓then_normal, ↓then_exit, ↓then_ret, ↓blk_normal, ↓blk_exit, ↓blk_ret, ↓blk_other, ops_nil, ops_some, ops_none, oper_none, oper_some, gd_tt, gd_ff, gd_tf, gd_ft, gd_undef, ↓any_op, ↓any_call, ↓any_callV, ↓any_invoke, xo_t, xo_c, args_nil, args_cons, bin_add, bin_sub, bin_mul, bin_quo, bin_rem, bin_and, bin_or, bin_xor, bin_andNot, bin_eql, bin_neq, bin_lss, bin_leq, bin_gtr, bin_geq, bin_shl, bin_shr, bin_bools, bin_strs, bin_ptrs, bin_slices, bin_aggs, ↓Option.bind_some, ↓Option.map_some, ↓cond_true, ↓cond_false, evC, evOp, XO.lit, setArgs, Tr.get_set, Option.bind_some, Option.map_some, cond_true, cond_false, maxI, maxFrom, minI, minFrom, aConv, aBinE, aEq, eqScal, aUn, evRes, fin, oneOf, if_true, if_false, callee, reduceCtorEq, Nat.reduceEqDiff, and_self, decide_true, decide_false, beq_true, beq_false, Bool.not_true, Bool.not_false, List.getElem?_cons_zero, List.getElem?_cons_succ, beq_self_eq_true, gt_iff_lt, ble_dec, beq_dec, List.head?_cons, AV.undef, eq_self, ne_eq, not_true_eq_false, not_false_eq_true, Int.reduceLT, Int.reduceLE, Int.reduceToNat, Int.reduceEq, Int.reduceNeg, Nat.reduceAdd, Nat.reduceLT, Nat.reduceLeDiff, Nat.reduceMul, Nat.reduceSub, ↓evDraw_nil, bir, putD, evDraw, trace, List.all_cons, List.all_nil, chk, stAt, again, sameV, sameL, sameA, AV.undef, Bool.and_self, Bool.and_true, decide_eq_true_eq, List.getElem?_nil, AV.cells, AV.tup, Bool.true_and, true_and, and_true, List.drop_nil, List.append_nil, rd_put, rd_alloc, rdO, St.get_put, St.get_alloc, St.next_put, St.next_alloc, St.wr, Bool.and_self, Bool.and_true, List.length_cons, List.length_nil, List.take_succ_cons, List.take_zero, List.drop_succ_cons, List.drop_zero, List.cons_append, List.nil_append, Nat.zero_add, Nat.add_zero, Nat.reduceMul, aFill, evParts, rep, List.replicate_succ, List.replicate_zero, List.flatten_cons, List.flatten_nil, List.append_nil, newSl, newVar, t47, t48, c1]
    exact ⟨by simp only [Tr.get_set, Nat.reduceEqDiff, if_false, t2], by simp only [Tr.get_set, Nat.reduceEqDiff, if_false, t7], by simp only [Tr.get_set, Nat.reduceEqDiff, if_false, t8], by simp only [Tr.get_set, Nat.reduceEqDiff, if_false, t9], by simp only [Tr.get_set, Nat.reduceEqDiff, if_false, t10], by simp only [Tr.get_set, Nat.reduceEqDiff, if_false, t11], by simp only [Tr.get_set, Nat.reduceEqDiff, if_false, t47], l, j, by simp only [Tr.get_set, Nat.reduceEqDiff, if_false, t48], hj, bl, hl, u⟩
  have hix : ixOf (.int .i64 (j : Int)) n = some j := by rw [ix_ok (by omega) c1]; rfl
  have w1 : IntKind.i64.wrap ((i : Int) + (j : Int)) = (i : Int) + j := w64_id (by omega) (by omega)
  have wj : IntKind.i64.wrap ((j : Int) + 1) = ((j + 1 : Nat) : Int) := w64_id (by omega) (by omega)
  obtain ⟨y, hy⟩ : ∃ y : Nat, IntKind.u8.wrap ((i : Int) + (j : Int)) = (y : Int) ∧ y < 256 := ⟨(i + j) % 256, by rw [IntKind.wrap_u8]; omega, by omega⟩
  have g := u.same
  have hbl : (bv l).length = n := by rw [bv_len, hl]
  have hj1 : j + 1 ≤ n := by omega
  have hy1 := hy.1
  simp -implicitDefEqProofs -dsimp (maxSteps := 10000000) only [af15_l0, ↓goes_loop, ↓goes_seq, ↓goes_reg, ↓goes_dreg, ↓goes_cond, ↓goes_block, ↓goes_skip, ↓goes_exit, ↓goes_ret, after_some, br_true, br_false, ↓then_normal, ↓then_exit, ↓then_ret, ↓blk_normal, ↓blk_exit, ↓blk_ret, ↓blk_other, ops_nil, ops_some, ops_none, oper_none, oper_some, gd_tt, gd_ff, gd_tf, gd_ft, gd_undef, ↓any_op, ↓any_call, ↓any_callV, ↓any_invoke, xo_t, xo_c, args_nil, args_cons, bin_add, bin_sub, bin_mul, bin_quo, bin_rem, bin_and, bin_or, bin_xor, bin_andNot, bin_eql, bin_neq, bin_lss, bin_leq, bin_gtr, bin_geq, bin_shl, bin_shr, bin_bools, bin_strs, bin_ptrs, bin_slices, bin_aggs, ↓Option.bind_some, ↓Option.map_some, ↓cond_true, ↓cond_false, evC, evOp, XO.lit, setArgs, Tr.get_set, Option.bind_some, Option.map_some, cond_true, cond_false, maxI, maxFrom, minI, minFrom, aConv, aBinE, aEq, eqScal, aUn, evRes, fin, oneOf, if_true, if_false, callee, reduceCtorEq, Nat.reduceEqDiff, and_self, decide_true, decide_false, beq_true, beq_false, Bool.not_true, Bool.not_false, List.getElem?_cons_zero, List.getElem?_cons_succ, beq_self_eq_true, gt_iff_lt, ble_dec, beq_dec, List.head?_cons, AV.undef, eq_self, ne_eq, not_true_eq_false, not_false_eq_true, Int.reduceLT, Int.reduceLE, Int.reduceToNat, Int.reduceEq, Int.reduceNeg, Nat.reduceAdd, Nat.reduceLT, Nat.reduceLeDiff, Nat.reduceMul, Nat.reduceSub, ↓evDraw_nil, bir, putD, evDraw, trace, List.all_cons, List.all_nil, chk, stAt, again, sameV, sameL, sameA, AV.undef, Bool.and_self, Bool.and_true, decide_eq_true_eq, List.getElem?_nil, AV.cells, AV.tup, Bool.true_and, true_and, and_true, List.drop_nil, List.append_nil, rd_put, rd_alloc, rdO, St.get_put, St.get_alloc, St.next_put, St.next_alloc, St.wr, Bool.and_self, Bool.and_true, List.length_cons, List.length_nil, List.take_succ_cons, List.take_zero, List.drop_succ_cons, List.drop_zero, List.cons_append, List.nil_append, Nat.zero_add, Nat.add_zero, Nat.reduceMul, aFill, evParts, rep, List.replicate_succ, List.replicate_zero, List.flatten_cons, List.flatten_nil, List.append_nil, newSl, newVar, t9, t11, t47, t48, c1, hix, w1, wj, hy1, g, hbl, hj1, Nat.mul_one]
  refine ⟨m - 1, ⟨?_, ?_, ?_, ?_, ?_, ?_, ?_, l.take j ++ [y] ++ l.drop (j + 1), j + 1, ?_, by omega, ?_, ?_, ?_⟩, by show m - 1 < m; omega⟩
  iterate 8 (simp only [Tr.get_set, Nat.reduceEqDiff, if_false, if_true, t2, t7, t8, t9, t10, t11, t47]; try rfl)
  · refine Byt.app (Byt.app (fun b hb => bl b (List.mem_of_mem_take hb)) fun b hb => ?_) fun b hb => bl b (List.mem_of_mem_drop hb)
    rw [List.mem_singleton.1 hb]; exact hy.2
  · rw [List.length_append, List.length_append, List.length_take, List.length_drop]; simp only [List.length_cons, List.length_nil]; omega
  · refine (u.put _).cast ?_
    rw [bv_app, bv_app, bv_take, bv_drop]; rfl
/-- Both queues. -/
structure Bo (Sb : St) (q ob w ow : Nat) (rows : List (List Nat)) (b : Bk) (cut : Int) (S : St) : Prop where
  ext : Ext Sb S
  both : ∃ F G, Qu S F q ob rows b cut ∧ Rq S G w ow rows b cut ∧ (∀ j, F j → Sb.next ≤ j ∧ ¬ G j) ∧ (∀ j, G j → Sb.next ≤ j)
theorem Bo.more {Sb S S' : St} {q ob w ow : Nat} {rows : List (List Nat)} {b : Bk} {cut : Int} (h : Bo Sb q ob w ow rows b cut S) (e : Ext S S') : Bo Sb q ob w ow rows b cut S' := by
  obtain ⟨F, G, h1, h2, h3, h4⟩ := h.both
  exact ⟨h.ext.trans e, F, G, h1.fr (.of_ext e fun _ => False) fun _ _ h => h, h2.fr (.of_ext e fun _ => False) fun _ _ h => h, h3, h4⟩
/-- What both are asked at the end of a round. -/
structure As (k : Nat) (q ob w ow : Nat) (rows : List (List Nat)) (b : Bk) (cut : Int) (pl : Option (Nat × Nat × Nat)) (el : Nat) (S : St) : Prop where
  r12 : evF Y AP (k + 1999) 12 [pt q] S = some (.int .i64 rows.length, S)
  r14 : evF Y AP (k + 1999) 14 [pt q] S = some (.int .i64 cut, S)
  r23 : evF Y AP (k + 1999) 23 [pt q] S = some (pt ob, S)
  r24 : evF Y AP (k + 1999) 24 [pt ob] S = some (.int .i64 (b.l / 1000000), S)
  rw_ : ∀ v i m, S.rd w v i m = rdO (.cells [pt ow, .slice pl rows.length el none, .int .i64 cut] 0 0 true) v i m
  ro : ∀ v i m, S.rd ow v i m = rdO (bk b) v i m
  len : rows.length ≤ 9223372036854775807
  quo : Int.tdiv b.l 1000000 = b.l / 1000000
  wr : IntKind.i64.wrap (b.l / 1000000) = b.l / 1000000
theorem Bo.as_ {Sb S : St} {q ob w ow : Nat} {rows : List (List Nat)} {b : Bk} {cut : Int} (h : Bo Sb q ob w ow rows b cut S) (k : Nat) : ∃ pl el, As k q ob w ow rows b cut pl el S := by
  obtain ⟨F, G, h1, h2, h3, h4⟩ := h.both
  obtain ⟨pl, el, g, _⟩ := h2.li
  have := h1.n16; have := h1.ok.l0; have := h1.ok.l1; have := h1.ok.u1
  exact ⟨pl, el, T12 (k + 1995) h1, T14 (k + 1995) h1, T23 (k + 1995) h1, T24 (k + 1995) h1.gb h1.ok, rd_of g, rd_of h2.gb, by omega, Int.tdiv_eq_ediv_of_nonneg h1.ok.l0, w64_id (by omega) (by omega)⟩
theorem Bo.go {Sb S : St} {q ob w ow : Nat} {rows : List (List Nat)} {b : Bk} {cut : Int} (h : Bo Sb q ob w ow rows b cut S) (k : Nat) :
    ∃ v v' S1 S2, evF Y AP (k + 1999) 11 [pt q] S = some (v, S1) ∧ evF Y AP (k + 1999) 27 [pt w] S1 = some (v', S2) ∧ evF Y AP (k + 1999) 26 [v, v'] S2 = some (.bool true, S2) ∧ Ext Sb S1 ∧ S.next ≤ S1.next ∧ Bo Sb q ob w ow (goL rows b).2.1 (goL rows b).2.2 cut S2 := by
  obtain ⟨F, G, h1, h2, h3, h4⟩ := h.both
  have hl := goL_len rows b
  have n16 := h1.n16
  obtain ⟨p, c, S1, r1, rl, f1, Q1⟩ := T11 (k + 1979) h1
  have d1 : ∀ j, G j → ¬ F j := fun j hj hf => (h3 j hf).2 hj
  have h2' := h2.fr f1 d1
  obtain ⟨p', e', S2, r2, ss, f2, R2⟩ := T27 (k + 1979) h2'
  have d2 : ∀ j, Own S S1 F j → ¬ G j := fun j hj hg => hj.elim (fun hf => (h3 j hf).2 hg) fun hn => by have := h2.bd j hg; omega
  have rl2 := rl.fr f2 fun j _ hj => d2 j hj
  have r3 := T26 (k + 1979) (c := c) (c' := none) (by omega) rl2 ss
  have e1 : Ext Sb S1 := f1.ext h.ext fun j hj => (h3 j hj).1
  have e2 : Ext Sb S2 := f2.ext e1 h4
  have bf := h1.bd
  refine ⟨_, _, S1, S2, r1, r2, r3, e1, f1.next, e2, F, Own S1 S2 G, Q1.fr f2 fun j hj hg => (h3 j hj).2 hg, R2, fun j hj => ⟨(h3 j hj).1, fun hg => hg.elim (h3 j hj).2 fun hn => ?_⟩, fun j hj => hj.elim (h4 j) fun hn => ?_⟩
  · have := bf j hj; have := f1.next; omega
  · have := e1.next; omega
theorem Bo.tick {Sb S S' : St} {q ob w ow : Nat} {rows : List (List Nat)} {b : Bk} {cut : Int} (h : Bo Sb q ob w ow rows b cut S) (e : Ext S S') (k : Nat) (n : Int) :
    ∃ S1 S2 pl el, evF Y AP (k + 1999) 10 [pt q, .int .i64 n] S' = some (.tuple [], S1) ∧ (∀ v i m, S1.rd w v i m = rdO (.cells [pt ow, .slice pl rows.length el none, .int .i64 cut] 0 0 true) v i m) ∧ evF Y AP (k + 1999) 28 [pt ow, .int .i64 n] S1 = some (.tuple [], S2) ∧ (∃ F, Fr S' S1 F ∧ (∀ j, F j → Sb.next ≤ j ∧ j < S.next)) ∧ Bo Sb q ob w ow rows (tickB b n) cut S2 := by
  obtain ⟨F, G, h1, h2, h3, h4⟩ := h.both
  have bF := h1.bd
  replace h1 := h1.fr (.of_ext e fun _ => False) fun _ _ h => h
  replace h2 := h2.fr (.of_ext e fun _ => False) fun _ _ h => h
  obtain ⟨S1, r1, f1, Q1⟩ := T10 (k + 1991) h1 n
  have d1 : ∀ j, G j → ¬ F j := fun j hj hf => (h3 j hf).2 hj
  have h2' := h2.fr f1 d1
  obtain ⟨pl, el, g, _⟩ := h2'.li
  obtain ⟨S2, r2, u2⟩ := T28 (k + 1995) h2'.ok h2'.gb n
  have f2 : Fr S1 S2 G := .of_upd u2 h2'.fb
  have e1 : Ext Sb S1 := f1.ext (h.ext.trans e) fun j hj => (h3 j hj).1
  exact ⟨S1, S2, pl, el, r1, rd_of g, r2, ⟨F, f1, fun j hj => ⟨(h3 j hj).1, bF j hj⟩⟩, f2.ext e1 h4, F, G, Q1.fr f2 fun j hj hg => (h3 j hj).2 hg, h2'.bucket u2 (tickB_ok h2'.ok n), h3, h4⟩
theorem Bo.rate {Sb S S' : St} {q ob w ow : Nat} {rows : List (List Nat)} {b : Bk} {cut : Int} (h : Bo Sb q ob w ow rows b cut S) (e : Ext S S') (k : Nat) (n : Int) :
    ∃ S1 S2 pl el, evF Y AP (k + 1999) 29 [pt q, .int .i64 n] S' = some (.tuple [], S1) ∧ (∀ v i m, S1.rd w v i m = rdO (.cells [pt ow, .slice pl rows.length el none, .int .i64 cut] 0 0 true) v i m) ∧ evF Y AP (k + 1999) 30 [pt ow, .int .i64 n] S1 = some (.tuple [], S2) ∧ (∃ F, Fr S' S1 F ∧ (∀ j, F j → Sb.next ≤ j ∧ j < S.next)) ∧ Bo Sb q ob w ow rows (rateB b n) cut S2 := by
  obtain ⟨F, G, h1, h2, h3, h4⟩ := h.both
  have bF := h1.bd
  replace h1 := h1.fr (.of_ext e fun _ => False) fun _ _ h => h
  replace h2 := h2.fr (.of_ext e fun _ => False) fun _ _ h => h
  obtain ⟨S1, r1, f1, Q1⟩ := T29 (k + 1991) h1 n
  have d1 : ∀ j, G j → ¬ F j := fun j hj hf => (h3 j hf).2 hj
  have h2' := h2.fr f1 d1
  obtain ⟨pl, el, g, _⟩ := h2'.li
  obtain ⟨S2, r2, u2⟩ := T30 (k + 1995) h2'.gb n
  have f2 : Fr S1 S2 G := .of_upd u2 h2'.fb
  have e1 : Ext Sb S1 := f1.ext (h.ext.trans e) fun j hj => (h3 j hj).1
  exact ⟨S1, S2, pl, el, r1, rd_of g, r2, ⟨F, f1, fun j hj => ⟨(h3 j hj).1, bF j hj⟩⟩, f2.ext e1 h4, F, G, Q1.fr f2 fun j hj hg => (h3 j hj).2 hg, h2'.bucket u2 (rateB_ok h2'.ok n), h3, h4⟩
theorem Bo.put {Sb S S' : St} {q ob w ow : Nat} {rows : List (List Nat)} {b : Bk} {cut : Int} (h : Bo Sb q ob w ow rows b cut S) (k : Nat) {o n : Nat} {l : List Nat} (ho : S.next ≤ o) (ho' : o < S'.next) (e : Ext S S') (bl : Byt l) (hl : l.length = n) (hn : n ≤ 100000) (g : S'.get o = some (.cells (bv l) 0 0 true)) :
    ∃ S1 S2, evF Y AP (k + 1999) 9 [pt q, .slice (some (o, 0, 0)) n 1 none] S' = some (.bool (putB rows b l), S1) ∧ evF Y AP (k + 1999) 31 [pt w, .slice (some (o, 0, 0)) n 1 none] S1 = some (.bool (putB rows b l), S2) ∧ Bo Sb q ob w ow (putR rows b l) b (putC rows b l cut) S2 := by
  obtain ⟨F, G, h1, h2, h3, h4⟩ := h.both
  subst hl
  have by_ : By S' (some (o, 0, 0)) 1 l := ⟨.inr rfl, fun h => (by cases h), fun o' v i hp => by cases hp; exact ⟨ho', by rw [rd_cells g (Nat.le_refl _) (by rw [bv_len]; omega), List.drop_zero, List.take_of_length_le (by rw [bv_len]; exact Nat.le_refl _)]⟩, bl, by omega⟩
  have h1' := h1.fr (.of_ext e fun _ => False) fun _ _ h => h
  have h2' := h2.fr (.of_ext e fun _ => False) fun _ _ h => h
  obtain ⟨S1, r1, f1, Q1⟩ := T9 (k + 1991) h1' (c := none) by_ (by omega)
  have d1 : ∀ j, G j → ¬ F j := fun j hj hf => (h3 j hf).2 hj
  have h2'' := h2'.fr f1 d1
  have by1 := by_.fr f1 fun o' v i hp hf => by cases hp; have := h1.bd _ hf; omega
  obtain ⟨S2, r2, f2, R2⟩ := T31 (k + 1991) h2'' (c := none) by1 (by omega)
  have e1 : Ext Sb S1 := f1.ext (h.ext.trans e) fun j hj => (h3 j hj).1
  have e2 : Ext Sb S2 := f2.ext e1 h4
  have bf := h1'.bd
  have bg := h2'.bd
  have n1 := f1.next
  have n2 := f2.next
  have dd : ∀ j, Own S' S1 F j → ¬ G j := fun j hj hg => hj.elim (fun hf => (h3 j hf).2 hg) fun hn => by have := bg j hg; omega
  refine ⟨S1, S2, r1, r2, e2, Own S' S1 F, Own S1 S2 G, Q1.fr f2 dd, R2, fun j hj => ⟨hj.elim (fun hf => (h3 j hf).1) fun hn => ?_, fun hg => hg.elim (dd j hj) fun hn => ?_⟩, fun j hj => hj.elim (h4 j) fun hn => ?_⟩
  · have := (h.ext.trans e).next; omega
  · exact hj.elim (fun hf => by have := bf j hf; omega) fun hf => by omega
  · have := e1.next; omega
end Go.Proofs.YtkjmhhoioanolaaA
