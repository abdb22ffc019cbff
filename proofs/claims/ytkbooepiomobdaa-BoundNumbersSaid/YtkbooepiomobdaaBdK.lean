/- Chapter 13: rows made of a tape. -/
import Derived.Test.YtkbooepiomobdaaBdJ
import Derived.Test.YtkbooepiomobdaaWiA
set_option linter.unusedVariables false
set_option linter.unusedSimpArgs false
set_option maxRecDepth 10000
namespace Go.Proofs.YtkbooepiomobdaaA
open Go.RowKit
attribute [local congr] bind_congr1 map_congr1 cond_congr1 withX_congr after_congr br_congr gd_congr

/-- One object is turned, others may be new. -/
structure Mut (S S' : St) (o : Nat) (x : AO) : Prop where
  next : S.next ≤ S'.next
  get : S'.get o = some x
  old : ∀ j, j < S.next → ¬ j = o → S'.get j = S.get j
theorem Mut.of_upd {S S' : St} {o : Nat} {x : AO} (h : Upd S S' o x) : Mut S S' o x := ⟨by rw [h.next]; exact Nat.le_refl _, h.same, fun j _ hj => h.else hj⟩
theorem Mut.refl {S : St} {o : Nat} {x : AO} (h : S.get o = some x) : Mut S S o x := ⟨Nat.le_refl _, h, fun _ _ _ => rfl⟩
theorem Mut.trans {S S' S'' : St} {o : Nat} {x y : AO} (h : Mut S S' o x) (h' : Mut S' S'' o y) : Mut S S'' o y :=
  ⟨Nat.le_trans h.next h'.next, h'.get, fun j hj hn => (h'.old j (Nat.lt_of_lt_of_le hj h.next) hn).trans (h.old j hj hn)⟩
theorem Mut.then_ext {S S' S'' : St} {o : Nat} {x : AO} (h : Mut S S' o x) (ho : o < S.next) (h' : Ext S' S'') : Mut S S'' o x :=
  ⟨Nat.le_trans h.next h'.next, h'.get (Nat.lt_of_lt_of_le ho h.next) h.get, fun j hj hn => (h'.old j (Nat.lt_of_lt_of_le hj h.next)).trans (h.old j hj hn)⟩
theorem Mut.ext {S0 S S' : St} {o : Nat} {x : AO} (h : Mut S S' o x) (e : Ext S0 S) (ho : S0.next ≤ o) : Ext S0 S' :=
  ⟨Nat.le_trans e.next h.next, fun j hj => (h.old j (Nat.lt_of_lt_of_le hj e.next) (by omega)).trans (e.old j hj)⟩
theorem Mut.rd {S S' : St} {o : Nat} {x : AO} (h : Mut S S' o x) {j : Nat} (hj : j < S.next) (hn : ¬ j = o) (v i n : Nat) : S'.rd j v i n = S.rd j v i n := by
  unfold St.rd
  rw [h.old j hj hn]
theorem Sl.mut {S S' : St} {o : Nat} {x : AO} {p : Option (Nat × Nat × Nat)} {len : Nat} {ks : List Sc} (h : Sl S p len ks) (m : Mut S S' o x) (hne : ∀ o' v i, p = some (o', v, i) → ¬ o' = o) : Sl S' p len ks := by
  refine ⟨fun h0 => ?_, h.max, fun o' v i hp j hj => ?_⟩
  · obtain ⟨o', v, i, hp, ho⟩ := h.at_ h0
    exact ⟨o', v, i, hp, Nat.lt_of_lt_of_le ho m.next⟩
  · obtain ⟨o2, v', i', hp', ho⟩ := h.at_ (by omega)
    rw [hp] at hp'
    cases hp'
    rw [m.rd ho (hne _ _ _ hp)]
    exact h.el o' v i hp j hj
theorem Vec.mut {S S' : St} {o : Nat} {x : AO} {p : Option (Nat × Nat × Nat)} {len esz z : Nat} {c : List AV} (h : Vec S p len esz z c) (m : Mut S S' o x) (hne : ∀ o' v i, p = some (o', v, i) → ¬ o' = o) : Vec S' p len esz z c :=
  ⟨h.ez, h.sz, h.at_.imp_right fun ⟨o', ver, minv, h1, h2, h3, h4⟩ => ⟨o', ver, minv, h1, Nat.lt_of_lt_of_le h2 m.next, by rw [m.old o' h2 (hne o' ver 0 h1)]; exact h3, h4⟩⟩
abbrev pt2 (o : Nat) : AV := .ptr (some ⟨o, 0, 0, 2⟩)
def tape (p : Option (Nat × Nat × Nat)) (len : Nat) (j : Nat) : AO := .cells [.slice p len 1 none, .int .i64 j] 0 0 true
/-- A tape that lies in ot. -/
structure Tpe (S : St) (p : Option (Nat × Nat × Nat)) (len ot j : Nat) : Prop where
  sl : Sl S p len [.int .i64]
  ne : ∀ o v i, p = some (o, v, i) → ¬ o = ot
  g : S.get ot = some (tape p len j)
  lt : ot < S.next
  le : j ≤ len
set_option maxHeartbeats 4000000 in
theorem T29 (k : Nat) {S : St} {p : Option (Nat × Nat × Nat)} {len ot j : Nat} (h : Tpe S p len ot j) {n : Int} (n0 : 1 ≤ n) (n1 : n ≤ 1073741824) :
    ∃ x j' S', evF Y AP (k + 6) 29 [pt2 ot, .int .i64 n] S = some (.int .i64 x, S') ∧ 0 ≤ x ∧ x < n ∧ Mut S S' ot (tape p len j') ∧ Tpe S' p len ot j' := by
  have hmx := h.sl.max
  have hle := h.le
  have hrd : ∀ v i m, S.rd ot v i m = rdO (tape p len j) v i m := rd_of h.g
  have n2 : ¬ n < 1 := by omega
  have n3 : ¬ n = 0 := by omega
  by_cases c1 : (len : Int) ≤ (j : Int)
  · refine ⟨0, j, S, ?_, by omega, by omega, .refl h.g, h⟩
    rw [evF_body (af := af29) rfl rfl rfl]
    simp -implicitDefEqProofs -dsimp (maxSteps := 10000000) only [af29, ops_nil, ops_some, ops_none, oper_none, oper_some, gd_tt, gd_ff, gd_tf, gd_ft, gd_undef, ↓any_op, ↓any_call, ↓any_callV, ↓any_invoke, xo_t, xo_c, args_nil, args_cons, bin_add, bin_sub, bin_mul, bin_quo, bin_rem, bin_and, bin_or, bin_xor, bin_andNot, bin_eql, bin_neq, bin_lss, bin_leq, bin_gtr, bin_geq, bin_shl, bin_shr, bin_bools, bin_strs, bin_ptrs, bin_slices, bin_aggs, ↓Option.bind_some, ↓Option.map_some, ↓cond_true, ↓cond_false, evC, evOp, XO.lit, setArgs, Tr.tabG, Tr.tabS, Tr.tabL, Tr.get_lf, Option.bind_some, Option.map_some, cond_true, cond_false, maxI, maxFrom, minI, minFrom, aConv, aBinE, aEq, eqScal, aUn, evRes, fin, oneOf, if_true, if_false, callee, reduceCtorEq, Nat.reduceEqDiff, and_self, decide_true, decide_false, beq_true, beq_false, Bool.not_true, Bool.not_false, List.getElem?_cons_zero, List.getElem?_cons_succ, beq_self_eq_true, gt_iff_lt, ble_dec, beq_dec, List.head?_cons, AV.undef, eq_self, ne_eq, not_true_eq_false, not_false_eq_true, Int.reduceLT, Int.reduceLE, Int.reduceToNat, Int.reduceEq, Int.reduceNeg, Nat.reduceAdd, Nat.reduceLT, Nat.reduceLeDiff, Nat.reduceMul, Nat.reduceSub, ↓evDraw_nil, bir, putD, evDraw, trace, List.all_cons, List.all_nil, chk, stAt, again, sameV, sameL, sameA, AV.undef, Bool.and_self, Bool.and_true, decide_eq_true_eq, List.getElem?_nil, AV.cells, AV.tup, Bool.true_and, true_and, and_true, List.drop_nil, List.append_nil, rd_put, rd_alloc, rdO, St.get_put, St.get_alloc, St.next_put, St.next_alloc, St.wr, Bool.and_self, Bool.and_true, List.length_cons, List.length_nil, List.take_succ_cons, List.take_zero, List.drop_succ_cons, List.drop_zero, List.cons_append, List.nil_append, Nat.zero_add, Nat.add_zero, Nat.reduceMul, aFill, evParts, rep, List.replicate_succ, List.replicate_zero, List.flatten_cons, List.flatten_nil, List.append_nil, newSl, newVar, hrd, tape, hmx, c1]
  · have hj : j < len := by omega
    obtain ⟨o, v, i, rfl, ho⟩ := h.sl.at_ (by omega)
    obtain ⟨x, hx, wx⟩ := h.sl.int (j := (j : Int)) (by omega) (by omega)
    rw [show ((j : Nat) : Int).toNat = j from rfl, Nat.mul_one] at hx
    have wj : IntKind.i64.wrap ((j : Int) + 1) = ((j + 1 : Nat) : Int) := w64_id (by omega) (by omega)
    have wj2 : IntKind.i64.wrap (((j + 1 : Nat) : Int) - 1) = (j : Int) := by rw [show ((j + 1 : Nat) : Int) - 1 = (j : Int) by omega]; exact w64_id (by omega) (by omega)
    have hix : ixOf (.int .i64 (j : Int)) len = some j := by rw [ix_ok (by omega) (by omega)]; rfl
    obtain ⟨A, hA⟩ : ∃ A, S.put ot (.cells [.slice (some (o, v, i)) len 1 none, .int .i64 ((j + 1 : Nat) : Int)] 0 0 true) = A := ⟨_, rfl⟩
    have uA : Upd S A ot (tape (some (o, v, i)) len (j + 1)) := by rw [← hA]; exact .one _ _ _
    have rA : ∀ v' i' m, A.rd ot v' i' m = rdO (tape (some (o, v, i)) len (j + 1)) v' i' m := rd_of uA.same
    have mA := Mut.of_upd uA
    have hxA : A.rd o v (i + j) 1 = some [.int .i64 x] := by rw [mA.rd ho (h.ne _ _ _ rfl)]; exact hx
    have r40 : evF Y AP (k + 5) 40 [.int .i64 x, .int .i64 0, .int .i64 1073741824] A = some (.int .i64 (within x 0 1073741824), A) := T40 (k + 1) A (by decide) (by decide) (by decide)
    have bw := within_bd x (show (0 : Int) ≤ 1073741824 by decide)
    obtain ⟨y, hy⟩ : ∃ y, within x 0 1073741824 = y := ⟨_, rfl⟩
    rw [hy] at r40 bw
    have hg := h.g
    unfold tape at hg
    refine ⟨Int.tmod y n, j + 1, A, ?_, Int.tmod_nonneg _ bw.1, Int.tmod_lt_of_pos _ (by omega), mA, ⟨h.sl.mut mA h.ne, h.ne, uA.same, by rw [uA.next]; exact h.lt, by omega⟩⟩
    rw [evF_body (af := af29) rfl rfl rfl]
    simp -implicitDefEqProofs -dsimp (maxSteps := 10000000) only [af29, ops_nil, ops_some, ops_none, oper_none, oper_some, gd_tt, gd_ff, gd_tf, gd_ft, gd_undef, ↓any_op, ↓any_call, ↓any_callV, ↓any_invoke, xo_t, xo_c, args_nil, args_cons, bin_add, bin_sub, bin_mul, bin_quo, bin_rem, bin_and, bin_or, bin_xor, bin_andNot, bin_eql, bin_neq, bin_lss, bin_leq, bin_gtr, bin_geq, bin_shl, bin_shr, bin_bools, bin_strs, bin_ptrs, bin_slices, bin_aggs, ↓Option.bind_some, ↓Option.map_some, ↓cond_true, ↓cond_false, evC, evOp, XO.lit, setArgs, Tr.tabG, Tr.tabS, Tr.tabL, Tr.get_lf, Option.bind_some, Option.map_some, cond_true, cond_false, maxI, maxFrom, minI, minFrom, aConv, aBinE, aEq, eqScal, aUn, evRes, fin, oneOf, if_true, if_false, callee, reduceCtorEq, Nat.reduceEqDiff, and_self, decide_true, decide_false, beq_true, beq_false, Bool.not_true, Bool.not_false, List.getElem?_cons_zero, List.getElem?_cons_succ, beq_self_eq_true, gt_iff_lt, ble_dec, beq_dec, List.head?_cons, AV.undef, eq_self, ne_eq, not_true_eq_false, not_false_eq_true, Int.reduceLT, Int.reduceLE, Int.reduceToNat, Int.reduceEq, Int.reduceNeg, Nat.reduceAdd, Nat.reduceLT, Nat.reduceLeDiff, Nat.reduceMul, Nat.reduceSub, ↓evDraw_nil, bir, putD, evDraw, trace, List.all_cons, List.all_nil, chk, stAt, again, sameV, sameL, sameA, AV.undef, Bool.and_self, Bool.and_true, decide_eq_true_eq, List.getElem?_nil, AV.cells, AV.tup, Bool.true_and, true_and, and_true, List.drop_nil, List.append_nil, rd_put, rd_alloc, rdO, St.get_put, St.get_alloc, St.next_put, St.next_alloc, St.wr, Bool.and_self, Bool.and_true, List.length_cons, List.length_nil, List.take_succ_cons, List.take_zero, List.drop_succ_cons, List.drop_zero, List.cons_append, List.nil_append, Nat.zero_add, Nat.add_zero, Nat.reduceMul, aFill, evParts, rep, List.replicate_succ, List.replicate_zero, List.flatten_cons, List.flatten_nil, List.append_nil, newSl, newVar, hrd, tape, hmx, c1, n2, n3, hg, wj, hA, rA, wj2, hix, Nat.mul_one, hxA, r40]
/-! ### A rate rounded down -/
structure I41 (n : Int) (S0 : St) (m : Nat) (T : Tm) (S : St) : Prop where
  st : S = S0
  t0 : T.get 0 = some (.int .u64 n)
  t1 : T.get 1 = some (.int .i64 17)
  more : ∃ j : Nat, T.get 6 = some (.int .i64 j) ∧ j ≤ 7 ∧ j + m = 7
theorem pow_bits (j : Nat) (hj : j ≤ 7) : (2 : Int) ^ min j (IntKind.bits .u64) = 2 ^ j := by
  rw [show min j (IntKind.bits .u64) = j from Nat.min_eq_left (by show j ≤ 64; omega)]
theorem round41 (k : Nat) {n : Int} {Sb : St} (n0 : 0 ≤ n) (n1 : n ≤ 16000000) (m : Nat) (T : Tm) (S : St) (hI : I41 n Sb m T S) :
    Goes (evF Y AP (k + 20)) (k + 20) af41_l0 T S (Then (fun T' S' => ∃ m', I41 n Sb m' T' S' ∧ id m' < id m) fun r T' S' => r = .exit 0 ∧ S' = Sb ∧ T'.get 0 = some (.int .u64 n) ∧ ∃ j : Nat, T'.get 6 = some (.int .i64 j) ∧ j ≤ 7 ∧ n / 2 ^ j < 131072) := by
  obtain ⟨rfl, t0, t1, j, t6, hj, hm⟩ := hI
  have w1 : IntKind.u64.wrap (j : Int) = (j : Int) := u64_id (by omega) (by omega)
  have w2 : IntKind.u64.wrap 17 = 17 := by decide
  have wj : IntKind.i64.wrap ((j : Int) + 1) = ((j + 1 : Nat) : Int) := w64_id (by omega) (by omega)
  have z1 : ¬ (j : Int) < 0 := by omega
  have hp := pow_bits j hj
  have w3 : IntKind.u64.wrap (1 * 2 ^ min 17 (IntKind.bits .u64)) = 131072 := by decide
  by_cases c1 : 131072 ≤ n / 2 ^ j
  · have hj7 : j < 7 := by
      rcases Nat.lt_or_ge j 7 with h | h
      · exact h
      · obtain rfl : j = 7 := by omega
        have : (2 : Int) ^ 7 = 128 := by decide
        rw [this] at c1
        omega
    simp -implicitDefEqProofs -dsimp (maxSteps := 10000000) only [af41_l0, ↓goes_loop, ↓goes_seq, ↓goes_reg, ↓goes_dreg, ↓goes_cond, ↓goes_block, ↓goes_skip, ↓goes_exit, ↓goes_ret, after_some, br_true, br_false, ↓then_normal, ↓then_exit, ↓then_ret, ↓blk_normal, ↓blk_exit, ↓blk_ret, ↓blk_other, ops_nil, ops_some, ops_none, oper_none, oper_some, gd_tt, gd_ff, gd_tf, gd_ft, gd_undef, ↓any_op, ↓any_call, ↓any_callV, ↓any_invoke, xo_t, xo_c, args_nil, args_cons, bin_add, bin_sub, bin_mul, bin_quo, bin_rem, bin_and, bin_or, bin_xor, bin_andNot, bin_eql, bin_neq, bin_lss, bin_leq, bin_gtr, bin_geq, bin_shl, bin_shr, bin_bools, bin_strs, bin_ptrs, bin_slices, bin_aggs, ↓Option.bind_some, ↓Option.map_some, ↓cond_true, ↓cond_false, evC, evOp, XO.lit, setArgs, Tr.get_set, Option.bind_some, Option.map_some, cond_true, cond_false, maxI, maxFrom, minI, minFrom, aConv, aBinE, aEq, eqScal, aUn, evRes, fin, oneOf, if_true, if_false, callee, reduceCtorEq, Nat.reduceEqDiff, and_self, decide_true, decide_false, beq_true, beq_false, Bool.not_true, Bool.not_false, List.getElem?_cons_zero, List.getElem?_cons_succ, beq_self_eq_true, gt_iff_lt, ble_dec, beq_dec, List.head?_cons, AV.undef, eq_self, ne_eq, not_true_eq_false, not_false_eq_true, Int.reduceLT, Int.reduceLE, Int.reduceToNat, Int.reduceEq, Int.reduceNeg, Nat.reduceAdd, Nat.reduceLT, Nat.reduceLeDiff, Nat.reduceMul, Nat.reduceSub, t0, t1, t6, w1, w2, w3, z1, Int.toNat_natCast, hp, c1, wj]
    refine ⟨m - 1, ⟨rfl, ?_, ?_, j + 1, ?_, by omega, by omega⟩, by show m - 1 < m; omega⟩ <;> simp only [Tr.get_set, Nat.reduceEqDiff, if_false, if_true, t0, t1]
  · simp -implicitDefEqProofs -dsimp (maxSteps := 10000000) only [af41_l0, ↓goes_loop, ↓goes_seq, ↓goes_reg, ↓goes_dreg, ↓goes_cond, ↓goes_block, ↓goes_skip, ↓goes_exit, ↓goes_ret, after_some, br_true, br_false, ↓then_normal, ↓then_exit, ↓then_ret, ↓blk_normal, ↓blk_exit, ↓blk_ret, ↓blk_other, ops_nil, ops_some, ops_none, oper_none, oper_some, gd_tt, gd_ff, gd_tf, gd_ft, gd_undef, ↓any_op, ↓any_call, ↓any_callV, ↓any_invoke, xo_t, xo_c, args_nil, args_cons, bin_add, bin_sub, bin_mul, bin_quo, bin_rem, bin_and, bin_or, bin_xor, bin_andNot, bin_eql, bin_neq, bin_lss, bin_leq, bin_gtr, bin_geq, bin_shl, bin_shr, bin_bools, bin_strs, bin_ptrs, bin_slices, bin_aggs, ↓Option.bind_some, ↓Option.map_some, ↓cond_true, ↓cond_false, evC, evOp, XO.lit, setArgs, Tr.get_set, Option.bind_some, Option.map_some, cond_true, cond_false, maxI, maxFrom, minI, minFrom, aConv, aBinE, aEq, eqScal, aUn, evRes, fin, oneOf, if_true, if_false, callee, reduceCtorEq, Nat.reduceEqDiff, and_self, decide_true, decide_false, beq_true, beq_false, Bool.not_true, Bool.not_false, List.getElem?_cons_zero, List.getElem?_cons_succ, beq_self_eq_true, gt_iff_lt, ble_dec, beq_dec, List.head?_cons, AV.undef, eq_self, ne_eq, not_true_eq_false, not_false_eq_true, Int.reduceLT, Int.reduceLE, Int.reduceToNat, Int.reduceEq, Int.reduceNeg, Nat.reduceAdd, Nat.reduceLT, Nat.reduceLeDiff, Nat.reduceMul, Nat.reduceSub, t0, t1, t6, w1, w2, w3, z1, Int.toNat_natCast, hp, c1]
    exact ⟨trivial, trivial, trivial, j, rfl, hj, by omega⟩
theorem T41 (k : Nat) (S : St) {n : Int} (n0 : 0 ≤ n) (n1 : n ≤ 16000000) : ∃ j : Nat, evF Y AP (k + 21) 41 [.int .u64 n, .int .i64 17] S = some (.tuple [.int .i64 j, .int .u32 (n / 2 ^ j)], S) ∧ j ≤ 7 ∧ n / 2 ^ j < 131072 := by
  suffices hh : ∃ v' S', evF Y AP (k + 21) 41 [.int .u64 n, .int .i64 17] S = some (v', S') ∧ S' = S ∧ ∃ j : Nat, v' = .tuple [.int .i64 j, .int .u32 (n / 2 ^ j)] ∧ j ≤ 7 ∧ n / 2 ^ j < 131072 by
    obtain ⟨v', S', h1, rfl, j, rfl, h2⟩ := hh; exact ⟨j, h1, h2⟩
  have z1 : ¬ (17 : Int) < 1 := by decide
  have z2 : ¬ (24 : Int) < 17 := by decide
  refine evF_goes (af := af41) (k := k + 20) rfl rfl rfl ?_
  simp -implicitDefEqProofs -dsimp (maxSteps := 10000000) only [af41, ↓goes_loop, ↓goes_seq, ↓goes_reg, ↓goes_dreg, ↓goes_cond, ↓goes_block, ↓goes_skip, ↓goes_exit, ↓goes_ret, after_some, br_true, br_false, ↓then_normal, ↓then_exit, ↓then_ret, ↓blk_normal, ↓blk_exit, ↓blk_ret, ↓blk_other, ops_nil, ops_some, ops_none, oper_none, oper_some, gd_tt, gd_ff, gd_tf, gd_ft, gd_undef, ↓any_op, ↓any_call, ↓any_callV, ↓any_invoke, xo_t, xo_c, args_nil, args_cons, bin_add, bin_sub, bin_mul, bin_quo, bin_rem, bin_and, bin_or, bin_xor, bin_andNot, bin_eql, bin_neq, bin_lss, bin_leq, bin_gtr, bin_geq, bin_shl, bin_shr, bin_bools, bin_strs, bin_ptrs, bin_slices, bin_aggs, ↓Option.bind_some, ↓Option.map_some, ↓cond_true, ↓cond_false, evC, evOp, XO.lit, setArgs, Tr.tabG, Tr.tabS, Tr.tabL, Tr.get_lf, Option.bind_some, Option.map_some, cond_true, cond_false, maxI, maxFrom, minI, minFrom, aConv, aBinE, aEq, eqScal, aUn, evRes, fin, oneOf, if_true, if_false, callee, reduceCtorEq, Nat.reduceEqDiff, and_self, decide_true, decide_false, beq_true, beq_false, Bool.not_true, Bool.not_false, List.getElem?_cons_zero, List.getElem?_cons_succ, beq_self_eq_true, gt_iff_lt, ble_dec, beq_dec, List.head?_cons, AV.undef, eq_self, ne_eq, not_true_eq_false, not_false_eq_true, Int.reduceLT, Int.reduceLE, Int.reduceToNat, Int.reduceEq, Int.reduceNeg, Nat.reduceAdd, Nat.reduceLT, Nat.reduceLeDiff, Nat.reduceMul, Nat.reduceSub, z1, z2]
  refine .while (I41 n S) id 7 ⟨rfl, rfl, rfl, 0, rfl, by omega, rfl⟩ (by show 7 < k + 20; omega) fun m2 T2 S2 h2 => (round41 k n0 n1 m2 T2 S2 h2).mono ?_
  intro r T' S' hq
  cases r with
  | normal => exact hq
  | ret => exact absurd hq.1 (by simp)
  | exit i =>
    obtain ⟨hi, rfl, t0, j, t6, hj, hl⟩ := hq
    cases hi
    have w1 : IntKind.u64.wrap (j : Int) = (j : Int) := u64_id (by omega) (by omega)
    have z3 : ¬ (j : Int) < 0 := by omega
    have hp := pow_bits j hj
    have hq0 : 0 ≤ n / 2 ^ j := Int.ediv_nonneg n0 (Int.le_of_lt (Int.pow_pos (by decide)))
    have w2 : IntKind.u32.wrap (n / 2 ^ j) = n / 2 ^ j := u32_id hq0 (by omega)
    simp -implicitDefEqProofs -dsimp (maxSteps := 10000000) only [↓goes_loop, ↓goes_seq, ↓goes_reg, ↓goes_dreg, ↓goes_cond, ↓goes_block, ↓goes_skip, ↓goes_exit, ↓goes_ret, after_some, br_true, br_false, ↓then_normal, ↓then_exit, ↓then_ret, ↓blk_normal, ↓blk_exit, ↓blk_ret, ↓blk_other, ops_nil, ops_some, ops_none, oper_none, oper_some, gd_tt, gd_ff, gd_tf, gd_ft, gd_undef, ↓any_op, ↓any_call, ↓any_callV, ↓any_invoke, xo_t, xo_c, args_nil, args_cons, bin_add, bin_sub, bin_mul, bin_quo, bin_rem, bin_and, bin_or, bin_xor, bin_andNot, bin_eql, bin_neq, bin_lss, bin_leq, bin_gtr, bin_geq, bin_shl, bin_shr, bin_bools, bin_strs, bin_ptrs, bin_slices, bin_aggs, ↓Option.bind_some, ↓Option.map_some, ↓cond_true, ↓cond_false, evC, evOp, XO.lit, setArgs, Tr.get_set, Option.bind_some, Option.map_some, cond_true, cond_false, maxI, maxFrom, minI, minFrom, aConv, aBinE, aEq, eqScal, aUn, evRes, fin, oneOf, if_true, if_false, callee, reduceCtorEq, Nat.reduceEqDiff, and_self, decide_true, decide_false, beq_true, beq_false, Bool.not_true, Bool.not_false, List.getElem?_cons_zero, List.getElem?_cons_succ, beq_self_eq_true, gt_iff_lt, ble_dec, beq_dec, List.head?_cons, AV.undef, eq_self, ne_eq, not_true_eq_false, not_false_eq_true, Int.reduceLT, Int.reduceLE, Int.reduceToNat, Int.reduceEq, Int.reduceNeg, Nat.reduceAdd, Nat.reduceLT, Nat.reduceLeDiff, Nat.reduceMul, Nat.reduceSub, t0, t6, w1, z3, Int.toNat_natCast, hp, w2]
    exact ⟨_, _, rfl, rfl, j, rfl, hj, hl⟩
theorem T30 (k : Nat) (S : St) {n : Int} (n0 : 0 ≤ n) (n1 : n ≤ 16000000) : ∃ r, evF Y AP (k + 22) 30 [.int .u64 n, .int .i64 17] S = some (.int .u64 r, S) ∧ 0 ≤ r ∧ r ≤ n := by
  obtain ⟨j, h41, hj, hl⟩ := T41 k S n0 n1
  have hp0 : (0 : Int) < 2 ^ j := Int.pow_pos (by decide)
  have hq0 : 0 ≤ n / 2 ^ j := Int.ediv_nonneg n0 (Int.le_of_lt hp0)
  have hle : n / 2 ^ j * 2 ^ j ≤ n := Int.ediv_mul_le _ (Int.ne_of_gt hp0)
  have hge : 0 ≤ n / 2 ^ j * 2 ^ j := Int.mul_nonneg hq0 (Int.le_of_lt hp0)
  have hdv : n / 2 ^ j * 2 ^ j / 2 ^ j = n / 2 ^ j := Int.mul_ediv_cancel _ (Int.ne_of_gt hp0)
  obtain ⟨q, hq⟩ : ∃ q, n / 2 ^ j = q := ⟨_, rfl⟩
  rw [hq] at h41 hl hq0 hle hge hdv
  have hp := pow_bits j hj
  have z1 : ¬ (17 : Int) < 1 := by decide
  have z2 : ¬ (24 : Int) < 17 := by decide
  have z3 : ¬ (j : Int) < 0 := by omega
  have z4 : ¬ (63 : Int) < (j : Int) := by omega
  have w0 : IntKind.u64.wrap 17 = 17 := by decide
  have w1 : IntKind.u32.wrap (1 * 2 ^ min 17 (IntKind.bits .u32)) = 131072 := by decide
  have z5 : ¬ 131072 ≤ q := by omega
  have w2 : IntKind.u64.wrap q = q := u64_id hq0 (by omega)
  have w3 : IntKind.u64.wrap (j : Int) = (j : Int) := u64_id (by omega) (by omega)
  have w4 : IntKind.u64.wrap (q * 2 ^ j) = q * 2 ^ j := u64_id hge (by omega)
  have h42 : evF Y AP (k + 21) 42 [.int .i64 j, .int .u32 q, .int .i64 17] S = some (.int .u64 (q * 2 ^ j), S) := by
    rw [evF_body (af := af42) rfl rfl rfl]
    simp -implicitDefEqProofs -dsimp (maxSteps := 10000000) only [af42, ops_nil, ops_some, ops_none, oper_none, oper_some, gd_tt, gd_ff, gd_tf, gd_ft, gd_undef, ↓any_op, ↓any_call, ↓any_callV, ↓any_invoke, xo_t, xo_c, args_nil, args_cons, bin_add, bin_sub, bin_mul, bin_quo, bin_rem, bin_and, bin_or, bin_xor, bin_andNot, bin_eql, bin_neq, bin_lss, bin_leq, bin_gtr, bin_geq, bin_shl, bin_shr, bin_bools, bin_strs, bin_ptrs, bin_slices, bin_aggs, ↓Option.bind_some, ↓Option.map_some, ↓cond_true, ↓cond_false, evC, evOp, XO.lit, setArgs, Tr.tabG, Tr.tabS, Tr.tabL, Tr.get_lf, Option.bind_some, Option.map_some, cond_true, cond_false, maxI, maxFrom, minI, minFrom, aConv, aBinE, aEq, eqScal, aUn, evRes, fin, oneOf, if_true, if_false, callee, reduceCtorEq, Nat.reduceEqDiff, and_self, decide_true, decide_false, beq_true, beq_false, Bool.not_true, Bool.not_false, List.getElem?_cons_zero, List.getElem?_cons_succ, beq_self_eq_true, gt_iff_lt, ble_dec, beq_dec, List.head?_cons, AV.undef, eq_self, ne_eq, not_true_eq_false, not_false_eq_true, Int.reduceLT, Int.reduceLE, Int.reduceToNat, Int.reduceEq, Int.reduceNeg, Nat.reduceAdd, Nat.reduceLT, Nat.reduceLeDiff, Nat.reduceMul, Nat.reduceSub, z1, z2, z3, z4, z5, w0, w1, w2, w3, Int.toNat_natCast, hp, w4, hdv]
  refine ⟨q * 2 ^ j, ?_, hge, hle⟩
  rw [evF_body (af := af30) rfl rfl rfl]
  simp -implicitDefEqProofs -dsimp (maxSteps := 10000000) only [af30, ops_nil, ops_some, ops_none, oper_none, oper_some, gd_tt, gd_ff, gd_tf, gd_ft, gd_undef, ↓any_op, ↓any_call, ↓any_callV, ↓any_invoke, xo_t, xo_c, args_nil, args_cons, bin_add, bin_sub, bin_mul, bin_quo, bin_rem, bin_and, bin_or, bin_xor, bin_andNot, bin_eql, bin_neq, bin_lss, bin_leq, bin_gtr, bin_geq, bin_shl, bin_shr, bin_bools, bin_strs, bin_ptrs, bin_slices, bin_aggs, ↓Option.bind_some, ↓Option.map_some, ↓cond_true, ↓cond_false, evC, evOp, XO.lit, setArgs, Tr.tabG, Tr.tabS, Tr.tabL, Tr.get_lf, Option.bind_some, Option.map_some, cond_true, cond_false, maxI, maxFrom, minI, minFrom, aConv, aBinE, aEq, eqScal, aUn, evRes, fin, oneOf, if_true, if_false, callee, reduceCtorEq, Nat.reduceEqDiff, and_self, decide_true, decide_false, beq_true, beq_false, Bool.not_true, Bool.not_false, List.getElem?_cons_zero, List.getElem?_cons_succ, beq_self_eq_true, gt_iff_lt, ble_dec, beq_dec, List.head?_cons, AV.undef, eq_self, ne_eq, not_true_eq_false, not_false_eq_true, Int.reduceLT, Int.reduceLE, Int.reduceToNat, Int.reduceEq, Int.reduceNeg, Nat.reduceAdd, Nat.reduceLT, Nat.reduceLeDiff, Nat.reduceMul, Nat.reduceSub, h41, h42]
structure OkR (t : Tp) : Prop where
  o0 : 0 ≤ t.o
  o1 : t.o ≤ 8
  r0 : 0 ≤ t.r
  r1 : t.r ≤ 16000000
  v0 : 0 ≤ t.v
  v1 : t.v ≤ 119
theorem OkR.ok {t : Tp} (h : OkR t) : OkT t := by
  have := h.o1; have := h.r1; have := h.v0; have := h.v1
  exact ⟨h.o0, by omega, h.r0, by omega, by omega, by omega⟩
set_option maxHeartbeats 4000000 in
theorem T15 (k : Nat) {S : St} {p : Option (Nat × Nat × Nat)} {len ot j : Nat} (h : Tpe S p len ot j) :
    ∃ t j' S', evF Y AP (k + 30) 15 [pt2 ot] S = some (tpv t, S') ∧ OkR t ∧ Mut S S' ot (tape p len j') ∧ Tpe S' p len ot j' := by
  obtain ⟨A, hA⟩ : ∃ A, S.alloc (.cells [.int .u32 0, .int .u64 0, .int .i64 0] 0 0 true) = A := ⟨_, rfl⟩
  have eA : Ext S A := by rw [← hA]; exact .alloc _ _
  have nA : A.next = S.next + 1 := by rw [← hA]; rfl
  have gA : A.get S.next = some (cell ⟨0, 0, 0⟩) := by rw [← hA, St.get_alloc, if_pos rfl]; rfl
  have more : ∀ {S1 S2 : St} {j1 : Nat}, Tpe S1 p len ot j1 → Ext S1 S2 → Tpe S2 p len ot j1 := fun h1 e => ⟨h1.sl.ext e, h1.ne, e.get h1.lt h1.g, Nat.lt_of_lt_of_le h1.lt e.next, h1.le⟩
  have hlt := h.lt
  have mA : Mut S A ot (tape p len j) := (Mut.refl h.g).then_ext hlt eA
  obtain ⟨x1, j1, S1, r1, a1, b1, m1, h1⟩ := T29 (k + 23) (more h eA) (n := 9) (by decide) (by decide)
  obtain ⟨x2, j2, S2, r2, a2, b2, m2, h2⟩ := T29 (k + 23) h1 (n := 2000) (by decide) (by decide)
  obtain ⟨B, hB⟩ : ∃ B, S2.alloc (.cells [.int .i64 1, .int .i64 100, .int .i64 8000] 0 0 true) = B := ⟨_, rfl⟩
  have eB : Ext S2 B := by rw [← hB]; exact .alloc _ _
  have nB : B.next = S2.next + 1 := by rw [← hB]; rfl
  have gB : B.get S2.next = some (.cells [.int .i64 1, .int .i64 100, .int .i64 8000] 0 0 true) := by rw [← hB, St.get_alloc, if_pos rfl]
  obtain ⟨x3, j3, S3, r3, a3, b3, m3, h3⟩ := T29 (k + 23) (more h2 eB) (n := 3) (by decide) (by decide)
  have r1 : evF Y AP (k + 29) 29 [pt2 ot, .int .i64 9] A = _ := r1
  have r2 : evF Y AP (k + 29) 29 [pt2 ot, .int .i64 2000] S1 = _ := r2
  have r3 : evF Y AP (k + 29) 29 [pt2 ot, .int .i64 3] B = _ := r3
  have l2 := h2.lt
  have gB3 : S3.get S2.next = some (.cells [.int .i64 1, .int .i64 100, .int .i64 8000] 0 0 true) := by rw [m3.old _ (by omega) (by omega)]; exact gB
  obtain ⟨f, hf, f0, f1⟩ : ∃ f : Int, S3.rd S2.next 0 (0 + x3.toNat) 1 = some [.int .i64 f] ∧ 1 ≤ f ∧ f ≤ 8000 := by
    have h3 : x3 = 0 ∨ x3 = 1 ∨ x3 = 2 := by omega
    rcases h3 with rfl | rfl | rfl
    · exact ⟨1, by rw [rd_of gB3]; rfl, by decide, by decide⟩
    · exact ⟨100, by rw [rd_of gB3]; rfl, by decide, by decide⟩
    · exact ⟨8000, by rw [rd_of gB3]; rfl, by decide, by decide⟩
  rw [Nat.zero_add] at hf
  have hix : ixOf (.int .i64 x3) 3 = some x3.toNat := ix_ok a3 b3
  have w1 : IntKind.u32.wrap x1 = x1 := u32_id a1 (by omega)
  have w2 : IntKind.i64.wrap (1 + x2) = 1 + x2 := w64_id (by omega) (by omega)
  have w3 : IntKind.u64.wrap (1 + x2) = 1 + x2 := u64_id (by omega) (by omega)
  have w4 : IntKind.u64.wrap f = f := u64_id (by omega) (by omega)
  have pr : 0 ≤ (1 + x2) * f ∧ (1 + x2) * f ≤ 16000000 := ⟨Int.mul_nonneg (by omega) (by omega), by have := Int.mul_le_mul (show 1 + x2 ≤ 2000 by omega) f1 (by omega) (by decide); omega⟩
  have w5 : IntKind.u64.wrap ((1 + x2) * f) = (1 + x2) * f := u64_id pr.1 (by omega)
  obtain ⟨rr, r30, c0, c1⟩ := T30 (k + 7) S3 pr.1 pr.2
  have r30 : evF Y AP (k + 29) 30 [.int .u64 ((1 + x2) * f), .int .i64 17] S3 = _ := r30
  obtain ⟨x4, j4, S4, r4, a4, b4, m4, h4⟩ := T29 (k + 23) h3 (n := 120) (by decide) (by decide)
  have r4 : evF Y AP (k + 29) 29 [pt2 ot, .int .i64 120] S3 = _ := r4
  have gr : S4.get S.next = some (cell ⟨0, 0, 0⟩) := by
    have n1 := m1.next; have n2 := m2.next; have n3 := m3.next
    rw [m4.old _ (by omega) (by omega), m3.old _ (by omega) (by omega), eB.old _ (by omega), m2.old _ (by omega) (by omega), m1.old _ (by omega) (by omega)]
    exact gA
  have M : Mut S S4 ot (tape p len j4) := (((((mA.trans m1).trans m2).then_ext hlt eB).trans m3).trans m4)
  have n4 := m4.next; have n3 := m3.next; have n2 := m2.next; have n1 := m1.next
  obtain ⟨C, hC⟩ : ∃ C, S4.put S.next (.cells [.int .u32 x1, .int .u64 rr, .int .i64 x4] 0 0 true) = C := ⟨_, rfl⟩
  have gC : ∀ j, C.get j = if j = S.next then some (.cells [.int .u32 x1, .int .u64 rr, .int .i64 x4] 0 0 true) else S4.get j := fun j => by rw [← hC, St.get_put]
  have nC : C.next = S4.next := by rw [← hC]; rfl
  have rC : C.rd S.next 0 0 3 = some [.int .u32 x1, .int .u64 rr, .int .i64 x4] := by rw [rd_of (by rw [gC, if_pos rfl])]; rfl
  have MC : Mut S C ot (tape p len j4) := ⟨by rw [nC]; exact M.next, by rw [gC, if_neg (by omega)]; exact M.get, fun j hj hn => by rw [gC, if_neg (by omega)]; exact M.old j hj hn⟩
  refine ⟨⟨x1, rr, x4⟩, j4, C, ?_, ⟨a1, by show x1 ≤ 8; omega, c0, by show rr ≤ 16000000; omega, a4, by show x4 ≤ 119; omega⟩, MC, ⟨h.sl.mut MC h.ne, h.ne, MC.get, Nat.lt_of_lt_of_le hlt MC.next, h4.le⟩⟩
  rw [evF_body (af := af15) rfl rfl rfl]
  simp -implicitDefEqProofs -dsimp (maxSteps := 10000000) only [af15, ops_nil, ops_some, ops_none, oper_none, oper_some, gd_tt, gd_ff, gd_tf, gd_ft, gd_undef, ↓any_op, ↓any_call, ↓any_callV, ↓any_invoke, xo_t, xo_c, args_nil, args_cons, bin_add, bin_sub, bin_mul, bin_quo, bin_rem, bin_and, bin_or, bin_xor, bin_andNot, bin_eql, bin_neq, bin_lss, bin_leq, bin_gtr, bin_geq, bin_shl, bin_shr, bin_bools, bin_strs, bin_ptrs, bin_slices, bin_aggs, ↓Option.bind_some, ↓Option.map_some, ↓cond_true, ↓cond_false, evC, evOp, XO.lit, setArgs, Tr.tabG, Tr.tabS, Tr.tabL, Tr.get_lf, Option.bind_some, Option.map_some, cond_true, cond_false, maxI, maxFrom, minI, minFrom, aConv, aBinE, aEq, eqScal, aUn, evRes, fin, oneOf, if_true, if_false, callee, reduceCtorEq, Nat.reduceEqDiff, and_self, decide_true, decide_false, beq_true, beq_false, Bool.not_true, Bool.not_false, List.getElem?_cons_zero, List.getElem?_cons_succ, beq_self_eq_true, gt_iff_lt, ble_dec, beq_dec, List.head?_cons, AV.undef, eq_self, ne_eq, not_true_eq_false, not_false_eq_true, Int.reduceLT, Int.reduceLE, Int.reduceToNat, Int.reduceEq, Int.reduceNeg, Nat.reduceAdd, Nat.reduceLT, Nat.reduceLeDiff, Nat.reduceMul, Nat.reduceSub, ↓evDraw_nil, bir, putD, evDraw, trace, List.all_cons, List.all_nil, chk, stAt, again, sameV, sameL, sameA, AV.undef, Bool.and_self, Bool.and_true, decide_eq_true_eq, List.getElem?_nil, AV.cells, AV.tup, Bool.true_and, true_and, and_true, List.drop_nil, List.append_nil, rd_put, rd_alloc, rdO, St.get_put, St.get_alloc, St.next_put, St.next_alloc, St.wr, Bool.and_self, Bool.and_true, List.length_cons, List.length_nil, List.take_succ_cons, List.take_zero, List.drop_succ_cons, List.drop_zero, List.cons_append, List.nil_append, Nat.zero_add, Nat.add_zero, Nat.reduceMul, aFill, evParts, rep, List.replicate_succ, List.replicate_zero, List.flatten_cons, List.flatten_nil, List.append_nil, newSl, newVar, hA, r1, w1, r2, w2, w3, hB, r3, hix, Nat.mul_one, hf, w4, w5, r30, r4, gr, cell, hC, rC]
/-! ### A row -/
structure I8 (p : Option (Nat × Nat × Nat)) (len ot : Nat) (n : Nat) (Sb : St) (m : Nat) (T : Tm) (S : St) : Prop where
  t1 : T.get 1 = some (.int .i64 n)
  t5 : T.get 5 = some (pt2 ot)
  ext : Ext Sb S
  hot : Sb.next ≤ ot
  more : ∃ (j q : Nat) (po : Option (Nat × Nat × Nat)) (eo : Nat) (l : List Tp), T.get 7 = some (.int .i64 j) ∧ T.get 6 = some (.slice po j eo none) ∧ j + m = n ∧ Tpe S p len ot q ∧ Vec S po l.length 3 eo (tcs l) ∧ l.length = j ∧ (∀ t ∈ l, OkR t) ∧ ∀ o v i, po = some (o, v, i) → Sb.next ≤ o ∧ ¬ o = ot
set_option maxHeartbeats 4000000 in
theorem round8 (k : Nat) {p : Option (Nat × Nat × Nat)} {len ot n : Nat} {Sb : St} (hn : n ≤ 100) (hne : ∀ o v i, p = some (o, v, i) → o < Sb.next) (m : Nat) (T : Tm) (S : St) (hI : I8 p len ot n Sb m T S) :
    Goes (evF Y AP (k + 1101)) (k + 1101) af8_l0 T S (Then (fun T' S' => ∃ m', I8 p len ot n Sb m' T' S' ∧ id m' < id m) fun r T' S' => r = .exit 0 ∧ I8 p len ot n Sb 0 T' S') := by
  obtain ⟨t1, t5, ex, hot, j, q, po, eo, l, t7, t6, hm, tp, V, hl, okl, new⟩ := hI
  by_cases c1 : (j : Int) < (n : Int)
  rotate_left
  · simp -implicitDefEqProofs -dsimp (maxSteps := 10000000) only [af8_l0, ↓goes_loop, ↓goes_seq, ↓goes_reg, ↓goes_dreg, ↓goes_cond, ↓goes_block, ↓goes_skip, ↓goes_exit, ↓goes_ret, after_some, br_true, br_false, ↓then_normal, ↓then_exit, ↓then_ret, ↓blk_normal, ↓blk_exit, ↓blk_ret, ↓blk_other, ops_nil, ops_some, ops_none, oper_none, oper_some, gd_tt, gd_ff, gd_tf, gd_ft, gd_undef, ↓any_op, ↓any_call, ↓any_callV, ↓any_invoke, xo_t, xo_c, args_nil, args_cons, bin_add, bin_sub, bin_mul, bin_quo, bin_rem, bin_and, bin_or, bin_xor, bin_andNot, bin_eql, bin_neq, bin_lss, bin_leq, bin_gtr, bin_geq, bin_shl, bin_shr, bin_bools, bin_strs, bin_ptrs, bin_slices, bin_aggs, ↓Option.bind_some, ↓Option.map_some, ↓cond_true, ↓cond_false, evC, evOp, XO.lit, setArgs, Tr.get_set, Option.bind_some, Option.map_some, cond_true, cond_false, maxI, maxFrom, minI, minFrom, aConv, aBinE, aEq, eqScal, aUn, evRes, fin, oneOf, if_true, if_false, callee, reduceCtorEq, Nat.reduceEqDiff, and_self, decide_true, decide_false, beq_true, beq_false, Bool.not_true, Bool.not_false, List.getElem?_cons_zero, List.getElem?_cons_succ, beq_self_eq_true, gt_iff_lt, ble_dec, beq_dec, List.head?_cons, AV.undef, eq_self, ne_eq, not_true_eq_false, not_false_eq_true, Int.reduceLT, Int.reduceLE, Int.reduceToNat, Int.reduceEq, Int.reduceNeg, Nat.reduceAdd, Nat.reduceLT, Nat.reduceLeDiff, Nat.reduceMul, Nat.reduceSub, AV.cells, AV.tup, Bool.true_and, true_and, and_true, List.drop_nil, List.append_nil, rd_put, rd_alloc, rdO, St.get_put, St.get_alloc, St.next_put, St.next_alloc, St.wr, Bool.and_self, Bool.and_true, List.length_cons, List.length_nil, List.take_succ_cons, List.take_zero, List.drop_succ_cons, List.drop_zero, List.cons_append, List.nil_append, Nat.zero_add, Nat.add_zero, Nat.reduceMul, t1, t7, c1]
    refine ⟨?_, ?_, ex, hot, j, q, po, eo, l, ?_, ?_, by omega, tp, V, hl, okl, new⟩ <;> simp only [Tr.get_set, Nat.reduceEqDiff, if_false, if_true, t1, t5, t6, t7]
  have wj : IntKind.i64.wrap ((j : Int) + 1) = ((j + 1 : Nat) : Int) := w64_id (by omega) (by omega)
  have hlt := tp.lt
  obtain ⟨t, q', S1, r15, okt, M, tp1⟩ := T15 (k + 1071) tp
  have r15 : evF Y AP (k + 1101) 15 [pt2 ot] S = _ := r15
  have n1 := M.next
  have e1 := M.ext ex hot
  have V1 := V.mut M fun o v i hp => (new o v i hp).2
  obtain ⟨B, hB⟩ : ∃ B, S1.alloc (.cells [.int .u32 t.o, .int .u64 t.r, .int .i64 t.v] 0 0 true) = B := ⟨_, rfl⟩
  have eB : Ext S1 B := by rw [← hB]; exact .alloc _ _
  have nB := eB.next
  have rB : B.rd S1.next 0 0 3 = some [.int .u32 t.o, .int .u64 t.r, .int .i64 t.v] := by rw [← hB, rd_alloc, if_pos rfl]; rfl
  obtain ⟨p', S2, h1, h2, h3, h4⟩ := (V1.ext eB).append (bytes := 24) (xs := tcs [t]) (n := 1) (tcs_len [t]) (by decide) (by omega)
  rw [hl] at h1
  have h1' : aAppend 3 24 B (.slice po j eo none) 1 [.int .u32 t.o, .int .u64 t.r, .int .i64 t.v] = some (.slice p' (j + 1) 3 none, S2) := h1
  have nom : ∀ v i, po ≠ some (ot, v, i) := fun v i hp => (new _ _ _ hp).2 rfl
  have lt1 := tp1.lt
  have lto : ∀ o v i, po = some (o, v, i) → o < S.next := fun o v i hp => by
    rcases V.at_ with ⟨hz, _⟩ | ⟨o', ver, minv, hz, ho, _⟩
    · rw [hp] at hz; cases hz
    · rw [hp] at hz; cases hz; exact ho
  have old2 : ∀ o, o < B.next → (∀ v i, po ≠ some (o, v, i)) → S2.get o = B.get o := h3.old
  have tp2 : Tpe S2 p len ot q' := by
    refine ⟨?_, tp1.ne, by rw [old2 _ (by omega) nom]; exact eB.get lt1 tp1.g, by have := h3.next; omega, tp1.le⟩
    have slB := tp1.sl.ext eB
    refine ⟨fun h0 => ?_, slB.max, fun o v i hp jj hj => ?_⟩
    · obtain ⟨o, v, i, hp, ho⟩ := slB.at_ h0
      exact ⟨o, v, i, hp, Nat.lt_of_lt_of_le ho h3.next⟩
    · have hob := hne o v i hp
      have hx := ex.next
      have : S2.get o = B.get o := old2 o (by omega) fun v' i' hp' => by have := (new _ _ _ hp').1; omega
      obtain ⟨ys, h5, h6⟩ := slB.el o v i hp jj hj
      exact ⟨ys, by unfold St.rd at h5 ⊢; rw [this]; exact h5, h6⟩
  have V2 : Vec S2 p' (l ++ [t]).length 3 3 (tcs (l ++ [t])) := by rw [List.length_append, tcs_app]; exact h2
  have hx := ex.next
  have ex2 : Ext Sb S2 := ⟨by have := h3.next; omega, fun o ho => by
    rw [old2 o (by omega) (fun v i hp => by have := (new o v i hp).1; omega), eB.old o (by omega)]
    exact e1.old o ho⟩
  simp -implicitDefEqProofs -dsimp (maxSteps := 10000000) only [af8_l0, ↓goes_loop, ↓goes_seq, ↓goes_reg, ↓goes_dreg, ↓goes_cond, ↓goes_block, ↓goes_skip, ↓goes_exit, ↓goes_ret, after_some, br_true, br_false, ↓then_normal, ↓then_exit, ↓then_ret, ↓blk_normal, ↓blk_exit, ↓blk_ret, ↓blk_other, ops_nil, ops_some, ops_none, oper_none, oper_some, gd_tt, gd_ff, gd_tf, gd_ft, gd_undef, ↓any_op, ↓any_call, ↓any_callV, ↓any_invoke, xo_t, xo_c, args_nil, args_cons, bin_add, bin_sub, bin_mul, bin_quo, bin_rem, bin_and, bin_or, bin_xor, bin_andNot, bin_eql, bin_neq, bin_lss, bin_leq, bin_gtr, bin_geq, bin_shl, bin_shr, bin_bools, bin_strs, bin_ptrs, bin_slices, bin_aggs, ↓Option.bind_some, ↓Option.map_some, ↓cond_true, ↓cond_false, evC, evOp, XO.lit, setArgs, Tr.get_set, Option.bind_some, Option.map_some, cond_true, cond_false, maxI, maxFrom, minI, minFrom, aConv, aBinE, aEq, eqScal, aUn, evRes, fin, oneOf, if_true, if_false, callee, reduceCtorEq, Nat.reduceEqDiff, and_self, decide_true, decide_false, beq_true, beq_false, Bool.not_true, Bool.not_false, List.getElem?_cons_zero, List.getElem?_cons_succ, beq_self_eq_true, gt_iff_lt, ble_dec, beq_dec, List.head?_cons, AV.undef, eq_self, ne_eq, not_true_eq_false, not_false_eq_true, Int.reduceLT, Int.reduceLE, Int.reduceToNat, Int.reduceEq, Int.reduceNeg, Nat.reduceAdd, Nat.reduceLT, Nat.reduceLeDiff, Nat.reduceMul, Nat.reduceSub, AV.cells, AV.tup, Bool.true_and, true_and, and_true, List.drop_nil, List.append_nil, rd_put, rd_alloc, rdO, St.get_put, St.get_alloc, St.next_put, St.next_alloc, St.wr, Bool.and_self, Bool.and_true, List.length_cons, List.length_nil, List.take_succ_cons, List.take_zero, List.drop_succ_cons, List.drop_zero, List.cons_append, List.nil_append, Nat.zero_add, Nat.add_zero, Nat.reduceMul, aFill, evParts, rep, List.replicate_succ, List.replicate_zero, List.flatten_cons, List.flatten_nil, List.append_nil, newSl, newVar, t1, t5, t6, t7, c1, r15, hB, Nat.one_mul, rB, h1', wj]
  refine ⟨m - 1, ⟨?_, ?_, ex2, hot, j + 1, q', p', 3, l ++ [t], ?_, ?_, by omega, tp2, V2, by rw [List.length_append, hl]; rfl, fun x hx => ?_, fun o v i hp => ?_⟩, by show m - 1 < m; omega⟩
  iterate 4 (first | focus (simp only [Tr.get_set, Nat.reduceEqDiff, if_false, if_true, t1, t5]; done) | skip)
  · rcases List.mem_append.1 hx with hx | hx
    · exact okl x hx
    · rw [List.mem_singleton.1 hx]; exact okt
  · rcases h4 o v i hp with h5 | ⟨v', i', h5⟩
    · exact ⟨by omega, by omega⟩
    · exact new _ _ _ h5
theorem T8 (k : Nat) {S : St} {p : Option (Nat × Nat × Nat)} {len : Nat} (h : Sl S p len [.int .i64]) (hp : ∀ o v i, p = some (o, v, i) → o < S.next) {n : Nat} (hn : n ≤ 100) :
    ∃ p' e' l S', evF Y AP (k + 1102) 8 [.slice p len 1 none, .int .i64 n] S = some (.slice p' n e' none, S') ∧ Gt S S' p' e' l ∧ l.length = n ∧ ∀ t ∈ l, OkR t := by
  suffices hh : ∃ v' S', evF Y AP (k + 1102) 8 [.slice p len 1 none, .int .i64 n] S = some (v', S') ∧ ∃ p' e' l, v' = .slice p' n e' none ∧ Gt S S' p' e' l ∧ l.length = n ∧ ∀ t ∈ l, OkR t by
    obtain ⟨v', S', h1, p', e', l, rfl, h2⟩ := hh; exact ⟨p', e', l, S', h1, h2⟩
  obtain ⟨A, hA⟩ : ∃ A, S.alloc (.cells [.slice p len 1 none, .int .i64 0] 0 0 true) = A := ⟨_, rfl⟩
  have eA : Ext S A := by rw [← hA]; exact .alloc _ _
  have nA : A.next = S.next + 1 := by rw [← hA]; rfl
  have gA : A.get S.next = some (tape p len 0) := by rw [← hA, St.get_alloc, if_pos rfl]; rfl
  refine evF_goes (af := af8) (k := k + 1101) rfl rfl rfl ?_
  simp -implicitDefEqProofs -dsimp (maxSteps := 10000000) only [af8, ↓goes_loop, ↓goes_seq, ↓goes_reg, ↓goes_dreg, ↓goes_cond, ↓goes_block, ↓goes_skip, ↓goes_exit, ↓goes_ret, after_some, br_true, br_false, ↓then_normal, ↓then_exit, ↓then_ret, ↓blk_normal, ↓blk_exit, ↓blk_ret, ↓blk_other, ops_nil, ops_some, ops_none, oper_none, oper_some, gd_tt, gd_ff, gd_tf, gd_ft, gd_undef, ↓any_op, ↓any_call, ↓any_callV, ↓any_invoke, xo_t, xo_c, args_nil, args_cons, bin_add, bin_sub, bin_mul, bin_quo, bin_rem, bin_and, bin_or, bin_xor, bin_andNot, bin_eql, bin_neq, bin_lss, bin_leq, bin_gtr, bin_geq, bin_shl, bin_shr, bin_bools, bin_strs, bin_ptrs, bin_slices, bin_aggs, ↓Option.bind_some, ↓Option.map_some, ↓cond_true, ↓cond_false, evC, evOp, XO.lit, setArgs, Tr.tabG, Tr.tabS, Tr.tabL, Tr.get_lf, Option.bind_some, Option.map_some, cond_true, cond_false, maxI, maxFrom, minI, minFrom, aConv, aBinE, aEq, eqScal, aUn, evRes, fin, oneOf, if_true, if_false, callee, reduceCtorEq, Nat.reduceEqDiff, and_self, decide_true, decide_false, beq_true, beq_false, Bool.not_true, Bool.not_false, List.getElem?_cons_zero, List.getElem?_cons_succ, beq_self_eq_true, gt_iff_lt, ble_dec, beq_dec, List.head?_cons, AV.undef, eq_self, ne_eq, not_true_eq_false, not_false_eq_true, Int.reduceLT, Int.reduceLE, Int.reduceToNat, Int.reduceEq, Int.reduceNeg, Nat.reduceAdd, Nat.reduceLT, Nat.reduceLeDiff, Nat.reduceMul, Nat.reduceSub, AV.cells, AV.tup, Bool.true_and, true_and, and_true, List.drop_nil, List.append_nil, rd_put, rd_alloc, rdO, St.get_put, St.get_alloc, St.next_put, St.next_alloc, St.wr, Bool.and_self, Bool.and_true, List.length_cons, List.length_nil, List.take_succ_cons, List.take_zero, List.drop_succ_cons, List.drop_zero, List.cons_append, List.nil_append, Nat.zero_add, Nat.add_zero, Nat.reduceMul, aFill, evParts, rep, List.replicate_succ, List.replicate_zero, List.flatten_cons, List.flatten_nil, List.append_nil, newSl, newVar, hA]
  refine .while (I8 p len S.next n S) id n ⟨rfl, rfl, eA, Nat.le_refl _, 0, 0, none, 0, [], rfl, rfl, by omega, ⟨h.ext eA, fun o v i e => by have := hp o v i e; omega, gA, by omega, Nat.zero_le _⟩, .nil _ _ _, rfl, fun _ h => (by cases h), fun _ _ _ h => (by cases h)⟩ (by show n < k + 1101; omega) fun m2 T2 S2 h2 => (round8 k hn hp m2 T2 S2 h2).mono ?_
  intro r T' S' hq
  cases r with
  | normal => exact hq
  | ret => exact absurd hq.1 (by simp)
  | exit i =>
    obtain ⟨hi, t1, t5, ex, hot, j, q, po, eo, l, t7, t6, hm, tp, V, hl, okl, new⟩ := hq
    cases hi
    obtain rfl : j = n := by omega
    simp -implicitDefEqProofs -dsimp (maxSteps := 10000000) only [↓goes_loop, ↓goes_seq, ↓goes_reg, ↓goes_dreg, ↓goes_cond, ↓goes_block, ↓goes_skip, ↓goes_exit, ↓goes_ret, after_some, br_true, br_false, ↓then_normal, ↓then_exit, ↓then_ret, ↓blk_normal, ↓blk_exit, ↓blk_ret, ↓blk_other, ops_nil, ops_some, ops_none, oper_none, oper_some, gd_tt, gd_ff, gd_tf, gd_ft, gd_undef, ↓any_op, ↓any_call, ↓any_callV, ↓any_invoke, xo_t, xo_c, args_nil, args_cons, bin_add, bin_sub, bin_mul, bin_quo, bin_rem, bin_and, bin_or, bin_xor, bin_andNot, bin_eql, bin_neq, bin_lss, bin_leq, bin_gtr, bin_geq, bin_shl, bin_shr, bin_bools, bin_strs, bin_ptrs, bin_slices, bin_aggs, ↓Option.bind_some, ↓Option.map_some, ↓cond_true, ↓cond_false, evC, evOp, XO.lit, setArgs, Tr.get_set, Option.bind_some, Option.map_some, cond_true, cond_false, maxI, maxFrom, minI, minFrom, aConv, aBinE, aEq, eqScal, aUn, evRes, fin, oneOf, if_true, if_false, callee, reduceCtorEq, Nat.reduceEqDiff, and_self, decide_true, decide_false, beq_true, beq_false, Bool.not_true, Bool.not_false, List.getElem?_cons_zero, List.getElem?_cons_succ, beq_self_eq_true, gt_iff_lt, ble_dec, beq_dec, List.head?_cons, AV.undef, eq_self, ne_eq, not_true_eq_false, not_false_eq_true, Int.reduceLT, Int.reduceLE, Int.reduceToNat, Int.reduceEq, Int.reduceNeg, Nat.reduceAdd, Nat.reduceLT, Nat.reduceLeDiff, Nat.reduceMul, Nat.reduceSub, t6]
    exact ⟨_, _, rfl, po, eo, l, rfl, ⟨V, ex, fun o v i e => (new o v i e).1⟩, hl, okl⟩
end Go.Proofs.YtkbooepiomobdaaA
