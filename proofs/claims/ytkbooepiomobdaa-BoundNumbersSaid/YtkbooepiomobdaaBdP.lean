/- Chapter 13: BoundNumbers, its parts. -/
import Derived.Test.YtkbooepiomobdaaBdL
set_option linter.unusedVariables false
set_option linter.unusedSimpArgs false
set_option maxRecDepth 10000
namespace Go.Proofs.YtkbooepiomobdaaA
open Go.RowKit
attribute [local congr] bind_congr1 map_congr1 cond_congr1 withX_congr after_congr br_congr gd_congr

/-! ### A tape -/
structure I9 (Sb : St) (kk : Int) (m : Nat) (T : Tm) (S : St) : Prop where
  t0 : T.get 0 = some (.int .i64 kk)
  ext : Ext Sb S
  more : ∃ (i : Nat) (p : Option (Nat × Nat × Nat)) (e : Nat) (c : List AV), T.get 4 = some (.int .i64 i) ∧ i + m = 400 ∧ T.get 3 = some (.slice p i e none) ∧ Vec S p i 1 e c ∧ (∀ o v j, p = some (o, v, j) → Sb.next ≤ o) ∧ ∀ j, j < i → Scs [.int .i64] ((c.drop (j * 1)).take 1)
theorem wf64_mk {a : Int} (h0 : -9223372036854775808 ≤ a) (h1 : a ≤ 9223372036854775807) : (Lit.int .i64 a).wf = true := by
  simpa [Lit.wf, IntKind.min, IntKind.max, IntKind.signed, IntKind.bits] using And.intro h0 h1
theorem scs211 (a : Int) : Scs [.int .i64] [.int .i64 (Int.tmod a 211)] := by
  have h1 := Int.tmod_lt_of_pos a (show (0 : Int) < 211 by decide)
  have h2 : -211 < Int.tmod a 211 := by
    rcases Int.le_total 0 a with h | h
    · have := Int.tmod_nonneg 211 h; omega
    · have := Int.tmod_nonneg 211 (show 0 ≤ -a by omega)
      have h3 := Int.tmod_lt_of_pos (-a) (show (0 : Int) < 211 by decide)
      rw [Int.neg_tmod] at this h3; omega
  exact ⟨⟨rfl, wf64_mk (by omega) (by omega)⟩, trivial⟩
set_option maxHeartbeats 4000000 in
theorem round9 (k : Nat) {Sb : St} {kk : Int} (m : Nat) (T : Tm) (S : St) (hI : I9 Sb kk m T S) :
    Goes (evF Y AP (k + 500)) (k + 500) af9_l0 T S (Then (fun T' S' => ∃ m', I9 Sb kk m' T' S' ∧ id m' < id m) fun r T' S' => r = .exit 0 ∧ I9 Sb kk 0 T' S') := by
  obtain ⟨t0, ex, i, p, e, c, t4, hm, t3, V, new, hs⟩ := hI
  by_cases c1 : (i : Int) < 400
  rotate_left
  · obtain rfl : m = 0 := by omega
    simp -implicitDefEqProofs -dsimp (maxSteps := 10000000) only [af9_l0, ↓goes_loop, ↓goes_seq, ↓goes_reg, ↓goes_dreg, ↓goes_cond, ↓goes_block, ↓goes_skip, ↓goes_exit, ↓goes_ret, after_some, br_true, br_false, ↓then_normal, ↓then_exit, ↓then_ret, ↓blk_normal, ↓blk_exit, ↓blk_ret, ↓blk_other, ops_nil, ops_some, ops_none, oper_none, oper_some, gd_tt, gd_ff, gd_tf, gd_ft, gd_undef, ↓any_op, ↓any_call, ↓any_callV, ↓any_invoke, xo_t, xo_c, args_nil, args_cons, bin_add, bin_sub, bin_mul, bin_quo, bin_rem, bin_and, bin_or, bin_xor, bin_andNot, bin_eql, bin_neq, bin_lss, bin_leq, bin_gtr, bin_geq, bin_shl, bin_shr, bin_bools, bin_strs, bin_ptrs, bin_slices, bin_aggs, ↓Option.bind_some, ↓Option.map_some, ↓cond_true, ↓cond_false, evC, evOp, XO.lit, setArgs, Tr.get_set, Option.bind_some, Option.map_some, cond_true, cond_false, maxI, maxFrom, minI, minFrom, aConv, aBinE, aEq, eqScal, aUn, evRes, fin, oneOf, if_true, if_false, callee, reduceCtorEq, Nat.reduceEqDiff, and_self, decide_true, decide_false, beq_true, beq_false, Bool.not_true, Bool.not_false, List.getElem?_cons_zero, List.getElem?_cons_succ, beq_self_eq_true, gt_iff_lt, ble_dec, beq_dec, List.head?_cons, AV.undef, eq_self, ne_eq, not_true_eq_false, not_false_eq_true, Int.reduceLT, Int.reduceLE, Int.reduceToNat, Int.reduceEq, Int.reduceNeg, Nat.reduceAdd, Nat.reduceLT, Nat.reduceLeDiff, Nat.reduceMul, Nat.reduceSub, AV.cells, AV.tup, Bool.true_and, true_and, and_true, List.drop_nil, List.append_nil, rd_put, rd_alloc, rdO, St.get_put, St.get_alloc, St.next_put, St.next_alloc, St.wr, Bool.and_self, Bool.and_true, List.length_cons, List.length_nil, List.take_succ_cons, List.take_zero, List.drop_succ_cons, List.drop_zero, List.cons_append, List.nil_append, Nat.zero_add, Nat.add_zero, Nat.reduceMul, t4, c1]
    refine ⟨?_, ex, i, p, e, c, ?_, hm, ?_, V, new, hs⟩ <;> simp only [Tr.get_set, Nat.reduceEqDiff, if_false, if_true, t0, t3, t4]
  have wi : IntKind.i64.wrap ((i : Int) + 1) = ((i + 1 : Nat) : Int) := w64_id (by omega) (by omega)
  obtain ⟨a, ha⟩ : ∃ a, IntKind.i64.wrap (IntKind.i64.wrap (IntKind.i64.wrap (IntKind.i64.wrap ((i : Int) * i) * 7) + IntKind.i64.wrap (kk * 41)) + IntKind.i64.wrap ((i : Int) * kk)) = a := ⟨_, rfl⟩
  obtain ⟨x, hx⟩ : ∃ x, Int.tmod a 211 = x := ⟨_, rfl⟩
  have sx := scs211 a
  rw [hx] at sx
  have z : ¬ (211 : Int) = 0 := by decide
  obtain ⟨B, hB⟩ : ∃ B, S.alloc (.cells [.int .i64 x] 0 0 true) = B := ⟨_, rfl⟩
  have eB : Ext S B := by rw [← hB]; exact .alloc _ _
  have rB : B.rd S.next 0 0 1 = some [.int .i64 x] := by rw [← hB, rd_alloc, if_pos rfl]; rfl
  obtain ⟨p', S', h1, h2, h3, h4⟩ := (V.ext eB).append (bytes := 8) (xs := [.int .i64 x]) (n := 1) rfl (by decide) (by omega)
  simp -implicitDefEqProofs -dsimp (maxSteps := 10000000) only [af9_l0, ↓goes_loop, ↓goes_seq, ↓goes_reg, ↓goes_dreg, ↓goes_cond, ↓goes_block, ↓goes_skip, ↓goes_exit, ↓goes_ret, after_some, br_true, br_false, ↓then_normal, ↓then_exit, ↓then_ret, ↓blk_normal, ↓blk_exit, ↓blk_ret, ↓blk_other, ops_nil, ops_some, ops_none, oper_none, oper_some, gd_tt, gd_ff, gd_tf, gd_ft, gd_undef, ↓any_op, ↓any_call, ↓any_callV, ↓any_invoke, xo_t, xo_c, args_nil, args_cons, bin_add, bin_sub, bin_mul, bin_quo, bin_rem, bin_and, bin_or, bin_xor, bin_andNot, bin_eql, bin_neq, bin_lss, bin_leq, bin_gtr, bin_geq, bin_shl, bin_shr, bin_bools, bin_strs, bin_ptrs, bin_slices, bin_aggs, ↓Option.bind_some, ↓Option.map_some, ↓cond_true, ↓cond_false, evC, evOp, XO.lit, setArgs, Tr.get_set, Option.bind_some, Option.map_some, cond_true, cond_false, maxI, maxFrom, minI, minFrom, aConv, aBinE, aEq, eqScal, aUn, evRes, fin, oneOf, if_true, if_false, callee, reduceCtorEq, Nat.reduceEqDiff, and_self, decide_true, decide_false, beq_true, beq_false, Bool.not_true, Bool.not_false, List.getElem?_cons_zero, List.getElem?_cons_succ, beq_self_eq_true, gt_iff_lt, ble_dec, beq_dec, List.head?_cons, AV.undef, eq_self, ne_eq, not_true_eq_false, not_false_eq_true, Int.reduceLT, Int.reduceLE, Int.reduceToNat, Int.reduceEq, Int.reduceNeg, Nat.reduceAdd, Nat.reduceLT, Nat.reduceLeDiff, Nat.reduceMul, Nat.reduceSub, ↓evDraw_nil, bir, putD, evDraw, trace, List.all_cons, List.all_nil, chk, stAt, again, sameV, sameL, sameA, AV.undef, Bool.and_self, Bool.and_true, decide_eq_true_eq, List.getElem?_nil, AV.cells, AV.tup, Bool.true_and, true_and, and_true, List.drop_nil, List.append_nil, rd_put, rd_alloc, rdO, St.get_put, St.get_alloc, St.next_put, St.next_alloc, St.wr, Bool.and_self, Bool.and_true, List.length_cons, List.length_nil, List.take_succ_cons, List.take_zero, List.drop_succ_cons, List.drop_zero, List.cons_append, List.nil_append, Nat.zero_add, Nat.add_zero, Nat.reduceMul, aFill, evParts, rep, List.replicate_succ, List.replicate_zero, List.flatten_cons, List.flatten_nil, List.append_nil, newSl, newVar, t0, t3, t4, c1, ha, hx, z, hB, Nat.mul_one, rB, h1, wi]
  refine ⟨m - 1, ⟨?_, ?_, i + 1, p', 1, c ++ [.int .i64 x], ?_, by omega, ?_, h2, ?_, Scs_snoc (ks := [.int .i64]) V.sz hs sx⟩, by show m - 1 < m; omega⟩
  · simp only [Tr.get_set, Nat.reduceEqDiff, if_false, if_true, t0]
  · have e1 := ex.trans eB
    exact ⟨Nat.le_trans e1.next h3.next, fun o ho => (h3.old o (Nat.lt_of_lt_of_le ho e1.next) fun v i hp => by have := new o v i hp; omega).trans (e1.old o ho)⟩
  · simp only [Tr.get_set, Nat.reduceEqDiff, if_false, if_true]
  · simp only [Tr.get_set, Nat.reduceEqDiff, if_false, if_true]
  · intro o v j hp
    rcases h4 o v j hp with h5 | ⟨v', i', h5⟩
    · have := ex.next; have := eB.next; omega
    · exact new _ _ _ h5
set_option maxHeartbeats 4000000 in
theorem T9 (k : Nat) (S : St) (kk : Int) :
    ∃ p e S', evF Y AP (k + 501) 9 [.int .i64 kk] S = some (.slice p 400 e none, S') ∧ e = 1 ∧ Sl S' p 400 [.int .i64] ∧ (∀ o v j, p = some (o, v, j) → S.next ≤ o ∧ o < S'.next) ∧ Ext S S' := by
  suffices hh : ∃ w S', evF Y AP (k + 501) 9 [.int .i64 kk] S = some (w, S') ∧ ∃ p e, w = .slice p 400 e none ∧ e = 1 ∧ Sl S' p 400 [.int .i64] ∧ (∀ o v j, p = some (o, v, j) → S.next ≤ o ∧ o < S'.next) ∧ Ext S S' by
    obtain ⟨w, S', h1, p, e, rfl, h2⟩ := hh; exact ⟨p, e, S', h1, h2⟩
  refine evF_goes (af := af9) (k := k + 500) rfl rfl rfl ?_
  simp -implicitDefEqProofs -dsimp (maxSteps := 10000000) only [af9, ↓goes_loop, ↓goes_seq, ↓goes_reg, ↓goes_dreg, ↓goes_cond, ↓goes_block, ↓goes_skip, ↓goes_exit, ↓goes_ret, after_some, br_true, br_false, ↓then_normal, ↓then_exit, ↓then_ret, ↓blk_normal, ↓blk_exit, ↓blk_ret, ↓blk_other, ops_nil, ops_some, ops_none, oper_none, oper_some, gd_tt, gd_ff, gd_tf, gd_ft, gd_undef, ↓any_op, ↓any_call, ↓any_callV, ↓any_invoke, xo_t, xo_c, args_nil, args_cons, bin_add, bin_sub, bin_mul, bin_quo, bin_rem, bin_and, bin_or, bin_xor, bin_andNot, bin_eql, bin_neq, bin_lss, bin_leq, bin_gtr, bin_geq, bin_shl, bin_shr, bin_bools, bin_strs, bin_ptrs, bin_slices, bin_aggs, ↓Option.bind_some, ↓Option.map_some, ↓cond_true, ↓cond_false, evC, evOp, XO.lit, setArgs, Tr.tabG, Tr.tabS, Tr.tabL, Tr.get_lf, Option.bind_some, Option.map_some, cond_true, cond_false, maxI, maxFrom, minI, minFrom, aConv, aBinE, aEq, eqScal, aUn, evRes, fin, oneOf, if_true, if_false, callee, reduceCtorEq, Nat.reduceEqDiff, and_self, decide_true, decide_false, beq_true, beq_false, Bool.not_true, Bool.not_false, List.getElem?_cons_zero, List.getElem?_cons_succ, beq_self_eq_true, gt_iff_lt, ble_dec, beq_dec, List.head?_cons, AV.undef, eq_self, ne_eq, not_true_eq_false, not_false_eq_true, Int.reduceLT, Int.reduceLE, Int.reduceToNat, Int.reduceEq, Int.reduceNeg, Nat.reduceAdd, Nat.reduceLT, Nat.reduceLeDiff, Nat.reduceMul, Nat.reduceSub, ↓evDraw_nil, bir, putD, evDraw, trace, List.all_cons, List.all_nil, chk, stAt, again, sameV, sameL, sameA, AV.undef, Bool.and_self, Bool.and_true, decide_eq_true_eq, List.getElem?_nil, AV.cells, AV.tup, Bool.true_and, true_and, and_true, List.drop_nil, List.append_nil, rd_put, rd_alloc, rdO, St.get_put, St.get_alloc, St.next_put, St.next_alloc, St.wr, Bool.and_self, Bool.and_true, List.length_cons, List.length_nil, List.take_succ_cons, List.take_zero, List.drop_succ_cons, List.drop_zero, List.cons_append, List.nil_append, Nat.zero_add, Nat.add_zero, Nat.reduceMul, aFill, evParts, rep, List.replicate_succ, List.replicate_zero, List.flatten_cons, List.flatten_nil, List.append_nil, newSl, newVar]
  refine .while (I9 S kk) id 400 ⟨rfl, .refl S, 0, none, 0, [], rfl, rfl, rfl, .nil _ _ _, fun _ _ _ hp => (by cases hp), fun _ h => (by omega)⟩ (by show 400 < k + 500; omega) fun m2 T2 S5 h2 => (round9 k m2 T2 S5 h2).mono ?_
  intro r T' S' hq
  cases r with
  | normal => exact hq
  | ret => exact absurd hq.1 (by simp)
  | exit x =>
    obtain ⟨hi, t0, ex, i, p, e, c, t4, hm, t3, V, new, hs⟩ := hq
    cases hi
    obtain rfl : i = 400 := by omega
    simp -implicitDefEqProofs -dsimp (maxSteps := 10000000) only [↓goes_loop, ↓goes_seq, ↓goes_reg, ↓goes_dreg, ↓goes_cond, ↓goes_block, ↓goes_skip, ↓goes_exit, ↓goes_ret, after_some, br_true, br_false, ↓then_normal, ↓then_exit, ↓then_ret, ↓blk_normal, ↓blk_exit, ↓blk_ret, ↓blk_other, ops_nil, ops_some, ops_none, oper_none, oper_some, gd_tt, gd_ff, gd_tf, gd_ft, gd_undef, ↓any_op, ↓any_call, ↓any_callV, ↓any_invoke, xo_t, xo_c, args_nil, args_cons, bin_add, bin_sub, bin_mul, bin_quo, bin_rem, bin_and, bin_or, bin_xor, bin_andNot, bin_eql, bin_neq, bin_lss, bin_leq, bin_gtr, bin_geq, bin_shl, bin_shr, bin_bools, bin_strs, bin_ptrs, bin_slices, bin_aggs, ↓Option.bind_some, ↓Option.map_some, ↓cond_true, ↓cond_false, evC, evOp, XO.lit, setArgs, Tr.get_set, Option.bind_some, Option.map_some, cond_true, cond_false, maxI, maxFrom, minI, minFrom, aConv, aBinE, aEq, eqScal, aUn, evRes, fin, oneOf, if_true, if_false, callee, reduceCtorEq, Nat.reduceEqDiff, and_self, decide_true, decide_false, beq_true, beq_false, Bool.not_true, Bool.not_false, List.getElem?_cons_zero, List.getElem?_cons_succ, beq_self_eq_true, gt_iff_lt, ble_dec, beq_dec, List.head?_cons, AV.undef, eq_self, ne_eq, not_true_eq_false, not_false_eq_true, Int.reduceLT, Int.reduceLE, Int.reduceToNat, Int.reduceEq, Int.reduceNeg, Nat.reduceAdd, Nat.reduceLT, Nat.reduceLeDiff, Nat.reduceMul, Nat.reduceSub, ↓evDraw_nil, bir, putD, evDraw, trace, List.all_cons, List.all_nil, chk, stAt, again, sameV, sameL, sameA, AV.undef, Bool.and_self, Bool.and_true, decide_eq_true_eq, List.getElem?_nil, AV.cells, AV.tup, Bool.true_and, true_and, and_true, List.drop_nil, List.append_nil, rd_put, rd_alloc, rdO, St.get_put, St.get_alloc, St.next_put, St.next_alloc, St.wr, Bool.and_self, Bool.and_true, List.length_cons, List.length_nil, List.take_succ_cons, List.take_zero, List.drop_succ_cons, List.drop_zero, List.cons_append, List.nil_append, Nat.zero_add, Nat.add_zero, Nat.reduceMul, t3]
    refine ⟨_, _, rfl, p, e, rfl, ?_, V.sl (ks := [.int .i64]) (by omega) hs, fun o v j hp => ⟨new o v j hp, ?_⟩, ex⟩
    · rcases V.at_ with ⟨_, h0⟩ | ⟨o, ver, minv, rfl, _⟩
      · exact absurd h0 (by decide)
      · exact V.ez.resolve_left (by simp)
    · rcases V.at_ with ⟨_, h0⟩ | ⟨o', ver, minv, hp', ho, _⟩
      · exact absurd h0 (by decide)
      · rw [hp] at hp'; cases hp'; exact ho
/-! ### A row that is appended to again and again -/
theorem rd_older {S : St} {o v ver minv i n : Nat} {own : Bool} {c : List AV} (hg : S.get o = some (.cells c ver minv own)) (h1 : minv ≤ v) (h2 : v ≤ ver) (h3 : i + n ≤ c.length) : S.rd o v i n = some ((c.drop i).take n) := by
  unfold St.rd
  rw [hg]
  have : (Nat.ble minv v && Nat.ble v ver && Nat.ble (i + n) c.length) = true := by simp [h1, h2, h3]
  simp only [this, cond_true]
theorem rd_fork {S : St} {o v ver minv g i n : Nat} {c : List AV} (hg : S.get o = some (.fork c ver minv g)) (h1 : minv ≤ v) (h2 : v ≤ ver) (h3 : i + n ≤ c.length) (h4 : v = ver ∨ i + n ≤ g) : S.rd o v i n = some ((c.drop i).take n) := by
  unfold St.rd
  rw [hg]
  have : (Nat.ble minv v && Nat.ble v ver && Nat.ble (i + n) c.length && (Nat.beq v ver || Nat.ble (i + n) g)) = true := by
    simp only [Bool.and_eq_true, Bool.or_eq_true, Nat.ble_eq, Nat.beq_eq]
    exact ⟨⟨⟨h1, h2⟩, h3⟩, h4⟩
  simp only [this, cond_true]
structure Fk (S : St) (o v : Nat) (l : List Tp) : Prop where
  lt : o < S.next
  is : ∃ (c : List AV) (ver minv : Nat), c.take (l.length * 3) = tcs l ∧ l.length * 3 ≤ c.length ∧ minv ≤ v ∧ v ≤ ver ∧ ((S.get o = some (.cells c ver minv true) ∧ (v = ver → c.length = l.length * 3)) ∨ (v < ver ∧ S.get o = some (.fork c ver minv (l.length * 3))))
theorem Fk.ext {S S' : St} {o v : Nat} {l : List Tp} (h : Fk S o v l) (x : Ext S S') : Fk S' o v l := by
  obtain ⟨hl, c, ver, minv, h1, h2, h3, h4, h5⟩ := h
  exact ⟨Nat.lt_of_lt_of_le hl x.next, c, ver, minv, h1, h2, h3, h4, h5.imp (fun h => ⟨x.get hl h.1, h.2⟩) fun h => ⟨h.1, x.get hl h.2⟩⟩
theorem Fk.ty {S : St} {o v : Nat} {l : List Tp} (h : Fk S o v l) (hm : l.length ≤ 1000) : Ty S (some (o, v, 0)) 3 l := by
  obtain ⟨hl, c, ver, minv, h1, h2, h3, h4, h5⟩ := h
  refine ⟨.inr rfl, fun h => (by cases h), fun o' v' i' hp => ?_, by omega⟩
  cases hp
  refine ⟨hl, ?_⟩
  rcases h5 with ⟨hg, _⟩ | ⟨_, hg⟩
  · rw [rd_older hg h3 h4 (by omega), List.drop_zero, h1]
  · rw [rd_fork hg h3 h4 (by omega) (.inr (by omega)), List.drop_zero, h1]
set_option maxHeartbeats 4000000 in
theorem Fk.app {S : St} {o v : Nat} {l : List Tp} (h : Fk S o v l) (h0 : 1 ≤ l.length) (hm : l.length ≤ 400) :
    ∃ v' S', aAppend 3 24 S (.slice (some (o, v, 0)) l.length 3 none) l.length (tcs l) = some (.slice (some (o, v', 0)) (l ++ l).length 3 none, S') ∧ Fk S' o v l ∧ Ty S' (some (o, v', 0)) 3 (l ++ l) := by
  obtain ⟨hl, c, ver, minv, h1, h2, h3, h4, h5⟩ := h
  have hn : ¬ l.length = 0 := by omega
  have hb : ((l.length + l.length) + (l.length + l.length) / 4 + 256) * 24 ≤ 281474976710656 := by omega
  have hl2 : (l ++ l).length = l.length + l.length := List.length_append
  have htl := tcs_len l
  have hl3 : (tcs l ++ tcs l).length = l.length * 3 + l.length * 3 := by rw [List.length_append, htl]
  have hz : 0 + l.length * 3 = l.length * 3 := Nat.zero_add _
  -- a fork
  have fork : ∀ (c : List AV), c.take (l.length * 3) = tcs l → Fk (S.put o (.fork (c.take (l.length * 3) ++ tcs l) (ver + 1) minv (l.length * 3))) o v l ∧ Ty (S.put o (.fork (c.take (l.length * 3) ++ tcs l) (ver + 1) minv (l.length * 3))) (some (o, ver + 1, 0)) 3 (l ++ l) := by
    intro c h1
    have hg' : (S.put o (.fork (c.take (l.length * 3) ++ tcs l) (ver + 1) minv (l.length * 3))).get o = some (.fork (c.take (l.length * 3) ++ tcs l) (ver + 1) minv (l.length * 3)) := by rw [St.get_put, if_pos rfl]
    rw [h1] at hg' ⊢
    refine ⟨⟨hl, tcs l ++ tcs l, ver + 1, minv, ?_, by omega, h3, by omega, .inr ⟨by omega, hg'⟩⟩, ⟨.inr rfl, fun h => (by cases h), fun o' v' i' hp => ?_, by omega⟩⟩
    · rw [List.take_left' htl]
    · cases hp
      refine ⟨hl, ?_⟩
      rw [rd_fork hg' (by omega) (Nat.le_refl _) (by omega) (.inl rfl), List.drop_zero, List.take_of_length_le (by omega), tcs_app]
  rcases h5 with ⟨hg, hv⟩ | ⟨hlt, hg⟩
  · rcases Nat.lt_or_ge v ver with hlt | hge
    · obtain ⟨f1, f2⟩ := fork c h1
      refine ⟨ver + 1, _, ?_, f1, f2⟩
      simp only [aAppend, ne_eq, not_true_eq_false, if_false, if_neg hn, if_neg (not_not_intro hb), hg]
      rw [if_neg (fun x => by omega), if_pos ⟨h3, hlt, by omega⟩, hz, hl2]
    · obtain rfl : v = ver := by omega
      have hcl := hv rfl
      have hc : c = tcs l := by rw [← h1, List.take_of_length_le (by omega)]
      subst hc
      have hg' : (S.put o (.cells (tcs l ++ tcs l) (v + 1) minv true)).get o = some (.cells (tcs l ++ tcs l) (v + 1) minv true) := by rw [St.get_put, if_pos rfl]
      refine ⟨v + 1, S.put o (.cells (tcs l ++ tcs l) (v + 1) minv true), ?_, ⟨hl, tcs l ++ tcs l, v + 1, minv, by rw [List.take_left' htl], by omega, h3, by omega, .inl ⟨hg', fun h => by omega⟩⟩, ⟨.inr rfl, fun h => (by cases h), fun o' v' i' hp => ?_, by omega⟩⟩
      · simp only [aAppend, ne_eq, not_true_eq_false, if_false, if_neg hn, if_neg (not_not_intro hb), hg]
        rw [if_pos ⟨trivial, by omega, h3⟩, if_pos (by omega), hl2, hz, List.take_of_length_le (by omega)]
      · cases hp
        refine ⟨hl, ?_⟩
        rw [rd_older hg' (by omega) (Nat.le_refl _) (by omega), List.drop_zero, List.take_of_length_le (by omega), tcs_app]
  · obtain ⟨f1, f2⟩ := fork c h1
    refine ⟨ver + 1, _, ?_, f1, f2⟩
    simp only [aAppend, ne_eq, not_true_eq_false, if_false, if_neg hn, if_neg (not_not_intro hb), hg]
    rw [if_pos ⟨h3, hlt, by omega, by omega⟩, hz, hl2]
structure I3x (o v : Nat) (l : List Tp) (kk : Nat) (m : Nat) (T : Tm) (S : St) : Prop where
  t1 : T.get 1 = some (.int .i64 kk)
  t2 : T.get 2 = some (.slice (some (o, v, 0)) l.length 3 none)
  fk : Fk S o v l
  more : ∃ i : Nat, T.get 3 = some (.int .u64 (7 * i : Nat)) ∧ i + m = 6
set_option maxHeartbeats 8000000 in
theorem round3x (k : Nat) {o v : Nat} {l : List Tp} {kk : Nat} (h1 : 1 ≤ l.length) (hn : l.length ≤ 400) (hl : ∀ t ∈ l, OkT t) (m : Nat) (T : Tm) (S : St) (hI : I3x o v l kk m T S) :
    Goes (evF Y AP (k + 1106)) (k + 1106) af3_l1 T S (Then (fun T' S' => ∃ m', I3x o v l kk m' T' S' ∧ id m' < id m) fun r T' S' => r = .exit 2 ∧ I3x o v l kk 0 T' S') := by
  obtain ⟨t1, t2, fk, i, t3, hm⟩ := hI
  by_cases c1 : ((7 * i : Nat) : Int) < 40
  rotate_left
  · obtain rfl : m = 0 := by omega
    simp -implicitDefEqProofs -dsimp (maxSteps := 10000000) only [af3_l1, ↓goes_loop, ↓goes_seq, ↓goes_reg, ↓goes_dreg, ↓goes_cond, ↓goes_block, ↓goes_skip, ↓goes_exit, ↓goes_ret, after_some, br_true, br_false, ↓then_normal, ↓then_exit, ↓then_ret, ↓blk_normal, ↓blk_exit, ↓blk_ret, ↓blk_other, ops_nil, ops_some, ops_none, oper_none, oper_some, gd_tt, gd_ff, gd_tf, gd_ft, gd_undef, ↓any_op, ↓any_call, ↓any_callV, ↓any_invoke, xo_t, xo_c, args_nil, args_cons, bin_add, bin_sub, bin_mul, bin_quo, bin_rem, bin_and, bin_or, bin_xor, bin_andNot, bin_eql, bin_neq, bin_lss, bin_leq, bin_gtr, bin_geq, bin_shl, bin_shr, bin_bools, bin_strs, bin_ptrs, bin_slices, bin_aggs, ↓Option.bind_some, ↓Option.map_some, ↓cond_true, ↓cond_false, evC, evOp, XO.lit, setArgs, Tr.get_set, Option.bind_some, Option.map_some, cond_true, cond_false, maxI, maxFrom, minI, minFrom, aConv, aBinE, aEq, eqScal, aUn, evRes, fin, oneOf, if_true, if_false, callee, reduceCtorEq, Nat.reduceEqDiff, and_self, decide_true, decide_false, beq_true, beq_false, Bool.not_true, Bool.not_false, List.getElem?_cons_zero, List.getElem?_cons_succ, beq_self_eq_true, gt_iff_lt, ble_dec, beq_dec, List.head?_cons, AV.undef, eq_self, ne_eq, not_true_eq_false, not_false_eq_true, Int.reduceLT, Int.reduceLE, Int.reduceToNat, Int.reduceEq, Int.reduceNeg, Nat.reduceAdd, Nat.reduceLT, Nat.reduceLeDiff, Nat.reduceMul, Nat.reduceSub, AV.cells, AV.tup, Bool.true_and, true_and, and_true, List.drop_nil, List.append_nil, rd_put, rd_alloc, rdO, St.get_put, St.get_alloc, St.next_put, St.next_alloc, St.wr, Bool.and_self, Bool.and_true, List.length_cons, List.length_nil, List.take_succ_cons, List.take_zero, List.drop_succ_cons, List.drop_zero, List.cons_append, List.nil_append, Nat.zero_add, Nat.add_zero, Nat.reduceMul, t3, c1]
    refine ⟨?_, ?_, fk, i, ?_, hm⟩ <;> simp only [Tr.get_set, Nat.reduceEqDiff, if_false, if_true, t1, t2, t3]
  obtain ⟨x, hx⟩ : ∃ x, 7 * i = x := ⟨_, rfl⟩
  rw [hx] at t3 c1
  have hl2 : ∀ t ∈ l ++ l, OkT t := fun t ht => (List.mem_append.1 ht).elim (hl t) (hl t)
  obtain ⟨S1, q1, x1⟩ := T10 k (c := none) (fk.ty (by omega)) (by omega) hl (n := x) (by omega)
  obtain ⟨v', S2, qa, fk2, ty2⟩ := (fk.ext x1).app h1 hn
  obtain ⟨y, hy⟩ : ∃ y, IntKind.u64.wrap ((x : Int) * 1000) = y := ⟨_, rfl⟩
  have y0 : 0 ≤ y := by rw [← hy, u64_id (by omega) (by omega)]; omega
  obtain ⟨S3, q2, x3⟩ := T10 k (c := none) ty2 (by rw [List.length_append]; omega) hl2 (n := y) y0
  have hr := (((fk.ext x1).ty (by omega)).at_ o v 0 rfl).2
  have wx : IntKind.u64.wrap ((x : Int) + 7) = ((7 * (i + 1) : Nat) : Int) := by rw [u64_id (by omega) (by omega)]; omega
  simp -implicitDefEqProofs -dsimp (maxSteps := 10000000) only [af3_l1, ↓goes_loop, ↓goes_seq, ↓goes_reg, ↓goes_dreg, ↓goes_cond, ↓goes_block, ↓goes_skip, ↓goes_exit, ↓goes_ret, after_some, br_true, br_false, ↓then_normal, ↓then_exit, ↓then_ret, ↓blk_normal, ↓blk_exit, ↓blk_ret, ↓blk_other, ops_nil, ops_some, ops_none, oper_none, oper_some, gd_tt, gd_ff, gd_tf, gd_ft, gd_undef, ↓any_op, ↓any_call, ↓any_callV, ↓any_invoke, xo_t, xo_c, args_nil, args_cons, bin_add, bin_sub, bin_mul, bin_quo, bin_rem, bin_and, bin_or, bin_xor, bin_andNot, bin_eql, bin_neq, bin_lss, bin_leq, bin_gtr, bin_geq, bin_shl, bin_shr, bin_bools, bin_strs, bin_ptrs, bin_slices, bin_aggs, ↓Option.bind_some, ↓Option.map_some, ↓cond_true, ↓cond_false, evC, evOp, XO.lit, setArgs, Tr.get_set, Option.bind_some, Option.map_some, cond_true, cond_false, maxI, maxFrom, minI, minFrom, aConv, aBinE, aEq, eqScal, aUn, evRes, fin, oneOf, if_true, if_false, callee, reduceCtorEq, Nat.reduceEqDiff, and_self, decide_true, decide_false, beq_true, beq_false, Bool.not_true, Bool.not_false, List.getElem?_cons_zero, List.getElem?_cons_succ, beq_self_eq_true, gt_iff_lt, ble_dec, beq_dec, List.head?_cons, AV.undef, eq_self, ne_eq, not_true_eq_false, not_false_eq_true, Int.reduceLT, Int.reduceLE, Int.reduceToNat, Int.reduceEq, Int.reduceNeg, Nat.reduceAdd, Nat.reduceLT, Nat.reduceLeDiff, Nat.reduceMul, Nat.reduceSub, ↓evDraw_nil, bir, putD, evDraw, trace, List.all_cons, List.all_nil, chk, stAt, again, sameV, sameL, sameA, AV.undef, Bool.and_self, Bool.and_true, decide_eq_true_eq, List.getElem?_nil, AV.cells, AV.tup, Bool.true_and, true_and, and_true, List.drop_nil, List.append_nil, rd_put, rd_alloc, rdO, St.get_put, St.get_alloc, St.next_put, St.next_alloc, St.wr, Bool.and_self, Bool.and_true, List.length_cons, List.length_nil, List.take_succ_cons, List.take_zero, List.drop_succ_cons, List.drop_zero, List.cons_append, List.nil_append, Nat.zero_add, Nat.add_zero, Nat.reduceMul, t2, t3, c1, q1, hr, qa, hy, q2, wx]
  refine ⟨m - 1, ⟨?_, ?_, fk2.ext x3, i + 1, ?_, by omega⟩, by show m - 1 < m; omega⟩ <;> simp only [Tr.get_set, Nat.reduceEqDiff, if_false, if_true, t1, t2]
end Go.Proofs.YtkbooepiomobdaaA
